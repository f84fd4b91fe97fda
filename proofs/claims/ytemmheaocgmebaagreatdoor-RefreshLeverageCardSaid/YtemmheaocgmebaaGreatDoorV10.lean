import Derived.Test.YtemmheaocgmebaaGreatDoorV09
set_option linter.defProp false
set_option linter.unusedVariables false
set_option linter.unusedSimpArgs false
set_option linter.unusedSectionVars false
set_option maxHeartbeats 16000000
namespace Go.Proofs.YtemmheaocgmebaaGreatDoor
open Go.Proofs.Tryz
open Go.RowKit Go.MapKept
def A5w:=@List.foldl_append
def A91:=@List.getElem?_mapIdx
def A6p:=@List.any_eq_false
def Bas:=@Classical.em
def A5l:=@List.ext_getElem
def A9f:=@Rat.zero_add
section
variable {C:CF}{F:List Al}{a i:Nat}{f:Al}{lab:Int}{p:Par}{q:Rat}{ss:zW}{w:zB}
structure CF.One (F:CF):Prop where
 c:F.c=1
 t:∀ k,F.t k=if 0<Bk k.1 k.2 then 0 else F.s k.1*F.s k.2
theorem CF.One.num:(CF.num 1).One:=⟨rfl,fun k=>by
 show (0:Rat)=if 0<Bk k.1 k.2 then 0 else (0:Rat)*0
 split
 ·rfl
 grind⟩
def Axz (p:Par)(q:Rat)(k:Par):(CF.one1 p q).s k=if k=p then q else 0:=rfl
theorem CF.One.one1 (p:Par)(q:Rat):(CF.one1 p q).One:=⟨rfl,fun k=>by
 show (if k=(p,p) then q*q else 0)=if 0<Bk k.1 k.2 then 0 else (if k.1=p then q else 0)*(if k.2=p then q else 0)
 obtain⟨x,y⟩:=k;by_cases h:(x,y)=(p,p)
 ·obtain⟨m,t⟩:=Prod.mk.inj h;subst t;rw[m];have:=Et.refl y;rw[if_pos rfl,if_neg (by simp only;omega)];simp
 rw[if_neg h];split
 ·rfl
 by_cases j:x=p
 ·have u:y≠p:=fun e=>h (by rw[j,e]);simp only[u,if_false];grind
 simp only[j,if_false];grind⟩
theorem CF.One.mul {F G:CF}(hF:F.One)(e:G.One):(F.mul G).One/\∀ p,(F.mul G).s p=F.s p+G.s p:=by
 have h:∀ p,(F.mul G).s p=F.s p+G.s p:=fun p=>by
  show G.s p*F.c+F.s p*G.c=_;rw[hF.c,e.c];grind
 refine⟨⟨?_,fun k=>?_⟩,h⟩
 ·show F.c*G.c=1;rw[hF.c,e.c];decide +kernel
 rw[h,h];show G.t k*F.c+F.t k*G.c+I2 F G k=_;rw[hF.c,e.c,hF.t,e.t];unfold I2;split
 ·grind
 split
 ·rename_i he;rw[<-he];grind
 grind
abbrev LF:Type:=Option (Option (Par×Rat))
def LF.cf:LF->CF
 |none=>CF.num 0
 |some none=>CF.num 1
 |some (some x)=>CF.one1 x.1 x.2
def Iv (C:CF)(L:List LF):CF:=L.foldl (fun c y=>c.mul y.cf) C
def Aa0 (C:CF)(L:List LF)(x:LF):Iv C (L++[x])=(Iv C L).mul x.cf:=by unfold Iv;rw[A5w];rfl
def Aqb (F:CF):(CF.num 0).mul F=CF.num 0:=by
 rw[CF.mul_comm];exact CF.mul_zero F
def Aae:∀ L,Iv (CF.num 0) L=CF.num 0
 |[]=>rfl
 |x::L=>by
  unfold Iv;rw[A6i,Aqb];exact Aae L
def Am2 {L:List LF}(h:none∈L):Iv C L=CF.num 0:=by
 obtain⟨A,B,rfl⟩:=A6k h;unfold Iv;rw[A5w,A6i];have:(List.foldl (fun c (y:LF)=>c.mul (LF.cf y)) C A).mul (LF.cf none)=CF.num 0:=CF.mul_zero _;rw[this];exact Aae B
def LF.one {x:LF}(h:x≠none):x.cf.One:=by
 match x,h with
 |some none,_=>exact CF.One.num
 |some (some x),_=>exact CF.One.one1 _ _
def We:∀ {L:List LF} {C:CF},C.One->none∉L->(Iv C L).One
 |[],C,h,_=>h
 |x::L,C,h,hn=>by
  have j:x≠none:=fun e=>hn (by rw[e];exact A4l ..);unfold Iv;rw[A6i];exact We (h.mul (LF.one j)).1 fun e=>hn (A2f _ e)
theorem Acr {p:Par}:∀ {L:List LF} {C:CF},C.One->none∉L->(∀ q,some (some (p,q))∉L)->(Iv C L).s p=C.s p
 |[],C,h,_,_=>rfl
 |x::L,C,h,hn,hp=>by
  have m:x≠none:=fun e=>hn (by rw[e];exact A4l ..);have j:=h.mul (LF.one m);unfold Iv;rw[A6i];have:=Acr (p:=p) j.1 (fun e=>hn (A2f _ e)) fun q e=>hp q (A2f _ e);unfold Iv at this;rw[this,j.2];have t:x.cf.s p=0:=by
   match x,m,hp with
   |some none,_,_=>rfl
   |some (some (p',q)),_,hp =>
    show (if p=p' then q else 0)=0;rw[if_neg fun e=>hp q (by rw[e];exact A4l ..)]
  rw[t];grind
theorem Av3 {L:List LF}(h:C.One)(T:none∉L)(Y:C.s p=0)(W:L[a]?=some (some (some (p,q))))(R:∀ b m,L[b]?=some (some (some (p,m)))->b=a):(Iv C L).s p=q:=by
 obtain⟨X,H⟩:=A05.1 W;have e:L=L.take a++some (some (p,q))::L.drop (a+1):=by
  rw[<-H,List.getElem_cons_drop,A4h]
 have u:none∉L.take a:=fun t=>T (A27 t);have J:none∉L.drop (a+1):=fun t=>T (A3x t);have K:∀ m,some (some (p,m))∉L.take a:=fun m t=>by
  obtain⟨b,I,j⟩:=A2y t;rw[A1e]at I;rw[A7w]at j;have:=R b m (by rw[A01 oV,j]);omega
 have P:∀ m,some (some (p,m))∉L.drop (a+1):=fun m t=>by
  obtain⟨b,I,j⟩:=A2y t;rw[A4y]at I;rw[List.getElem_drop]at j;have:=R (a+1+b) m (by rw[A01 oV,j]);omega
 rw[e];have U:=Acr (p:=p) h u K;have E:=We h u;have Q:=E.mul (CF.One.one1 p q);have V:=Acr (p:=p) Q.1 J P;have:Iv C (L.take a++some (some (p,q))::L.drop (a+1))=Iv ((Iv C (L.take a)).mul (CF.one1 p q)) (L.drop (a+1)):=by
  unfold Iv;rw[A5w,A6i];rfl
 rw[this,V,Q.2,U,Y,Axz,if_pos rfl];grind
noncomputable def Lk (t:zB):Rat:=open Classical in if h:∃ q,SmW q/\t=Ae q then h.choose else 0
def Aa7 {t:zB}(h:∃ q,SmW q/\t=Ae q):SmW (Lk t)/\Ae (Lk t)=t:=by
 unfold Lk;rw[dif_pos h];exact⟨h.choose_spec.1,h.choose_spec.2.symm⟩
noncomputable def I3 (i:Nat)(f:Al)(w:zB):LF:=if f.2.1=2 then some (some (((i:Int),w),1)) else if w = [] then (if f.2.2=1 then none else some none) else some (some (((i:Int),[]),Lk w))
noncomputable def Sy (w:zB):LF:=if w = [] then none else some (some ((-1,[]),Lk w))
noncomputable def Gm (F:List Al)(lab:Int)(a:Nat)(w:zB):LF:=if (a:Int)=lab then Sy w else match F.findIdx? (fun f=>f.1==a) with|some k=>I3 k (F.getD k (0,0,0)) w|none=>some none
noncomputable def Fh (F:List Al)(lab:Int)(ss:zW):List LF:=ss.mapIdx (Gm F lab)
def Hg (h:ss[a]?=some w):(Fh F lab ss)[a]?=some (Gm F lab a w):=by
 unfold Fh;rw[A91,h];rfl
def G3 :(Fh F lab ss).length=ss.length:=by unfold Fh;simp
def Aq0 (m:(F.map (·.1)).Nodup)(h:F[i]?=some f):F.findIdx? (fun g=>g.1==f.1)=some i:=by
 obtain⟨hi,rfl⟩:=A05.1 h;refine A52.2 ⟨hi,mV,fun j t=>?_⟩;simp only[beq_iff_eq];intro e;have:=(A9e (xs:=F.map (·.1)) (h₀:=by rw[A03];omega) (h₁:=by rw[A03];omega) (i:=j) (j:=i) m).1 (by rw[A3v,A3v];exact e);omega
def Zu (j:(F.map (·.1)).Nodup)(e:F[i]?=some f)(h:(f.1:Int)≠lab):Gm F lab f.1 w=I3 i f w:=by
 unfold Gm;rw[if_neg h,Aq0 j e];simp[A02,e]
def Gn (h:(a:Int)≠lab):Gm F lab a w=some none\/∃ (i:Nat) (f:Al),F[i]?=some f/\f.1=a/\Gm F lab a w=I3 i f w:=by
 unfold Gm;rw[if_neg h];cases hx:F.findIdx? (fun f=>f.1==a) with
 |none=>exact .inl rfl
 |some k =>
  obtain⟨e,j,_⟩:=A52.1 hx;right;refine⟨k,F[k],A01 e,by simpa using j,?_⟩;simp[A02,A01 e]
def Aoa (L:-1<=lab){a b:Nat}{q K:Rat}(j:(Fh F lab ss)[a]?=some (some (some (p,q))))(H:(Fh F lab ss)[b]?=some (some (some (p,K)))):b=a:=by
 have key:∀ {a:Nat} {q:Rat},(Fh F lab ss)[a]?=some (some (some (p,q)))->((a:Int)=lab/\p.1 = -1)\/∃ (i:Nat) (f:Al),F[i]?=some f/\f.1=a/\p.1=(i:Int):=by
  intro a q j;unfold Fh at j;rw[A91]at j;cases hw:ss[a]? with
  |none=>rw[hw]at j;cases j
  |some w =>
   rw[hw]at j;simp only[A4c,A1f]at j;by_cases h:(a:Int)=lab
   ·left;unfold Gm Sy at j;rw[if_pos h]at j;split at j
    ·cases j
    cases j;exact⟨h,rfl⟩
   right;rcases Gn (F:=F) (w:=w) h with e|⟨i,f,m,t,E⟩
   ·rw[e]at j;cases j
   rw[E]at j;refine⟨i,f,m,t,?_⟩;unfold I3 at j;split at j
   ·cases j;rfl
   split at j
   ·split at j<;>cases j
   cases j;rfl
 rcases key j with ⟨m,t⟩|⟨i,f,m,t,E⟩<;>rcases key H with ⟨u,J⟩|⟨I,f',u,J,P⟩
 ·omega
 ·omega
 ·omega
 obtain rfl:I=i:=oV;rw[m]at u;cases u;omega
end
section
variable {q:Rat}{t:zB}{x:LF}
def My {m:PH}{b:Nat}{t:TypeId}{xs:zV}{e:Value}(u:m b=some (.cells xs.toArray t (0,0)))(j:e.cells=xs.toArray):ElP m b 0 e:=fun i x h=>by
 refine⟨_,_,_,u,?_⟩;rw[j]at h;simpa using h
def SmW.dat (h:SmW q):Dat q:=⟨by have:=h.num;omega,h.le⟩
def SmW.sb (h:SmW q):SB q:=h.dn.small oV (pw jV)
def SmW.sb2 (h:SmW q):SB (q*q):=(h.dn.mul h.dn).small oV (pw jV)
def I7:SmW 1:=⟨jV,jV⟩
def LF.Small:LF->Prop
 |some (some x)=>SmW x.2/\PV x.1
 |_=>True
theorem LF.Small.cfd (h:x.Small):CFD 2 343731600 x.cf:=by
 match x,h with
 |none,_=>exact CFD.count (Dn.zero _ _)
 |some none,_=>exact CFD.count ⟨144,jV,fV⟩
 |some (some x),h =>
  have e:Dn 2 343731600 x.2:=by
   have:=h.1.dn.mul (show Dn 1 18540 1 from⟨12,jV,fV⟩);rw[show x.2*1=x.2 by grind]at this;exact this.mono oV
  exact Ao6 ⟨144,jV,fV⟩ e ((h.1.dn.mul h.1.dn).mono oV)
def LF.Small.cfv (h:x.Small):CFV x.cf:=by
 match x,h with
 |none,_=>exact CFV.count 0
 |some none,_=>exact CFV.count 1
 |some (some x),h=>exact Ar0 h.2
def R2 {L:List LF}(h:∀ x∈L,x.Small):∀ i,i<=L.length->CFD (2*i) (1374926400^i) (Iv (CF.num 1) (L.take i))/\CFV (Iv (CF.num 1) (L.take i))
 |0,_=>⟨CFD.count ⟨1,jV,fV⟩,CFV.count 1⟩
 |i+1,hi=>by
  obtain⟨m,u⟩:=R2 h i oV;have j:=h _ (A09 (show i<L.length by omega));have e:L.take (i+1)=L.take i++[L[i]]:=by rw[A1n,A01 oV];rfl
  rw[e,Aa0];refine⟨?_,u.mul j.cfv⟩;have:=m.mul j.cfd;rw[show 2*(i+1)=2*i+2 by omega];exact this.mono (by rw[A2d];omega)
def Ax7 {u:PH}{x:zB×Nat}(e:1<=x.2)(h:x.2<=3)(m:Rj x.2 t):zF 158 [D9 x,zS t] u fun v _=>v=zT:=by
 obtain⟨s,k⟩:=x;rcases m with rfl|⟨rfl,C⟩|⟨rfl,z,E,rfl⟩|⟨rfl,q,j,rfl⟩
 ·exact Ati e h
 ·exact Awf C
 ·exact Awl E
 exact Awh j.dat
def Hz (h:Rj 2 t)(j:t≠[]):SmW (Lk t)/\Ae (Lk t)=t:=by
 rcases h with e|⟨e,_⟩|⟨e,_⟩|⟨_,q,m,e⟩
 ·exact absurd e j
 ·omega
 ·omega
 exact Aa7 ⟨q,m,e⟩
def Ahh {T:zC}{F:List Al}{lab:Int}{a:Nat}{x:zB×Nat}(hF:Da T F lab)(u:∀ l:Nat,lab=(l:Int)->∃ n,T[l]?=some (n,2))(P:F.length<=8)(E:T[a]?=some x)(C:Rj x.2 t):(Gm F lab a t).Small:=by
 by_cases h:(a:Int)=lab
 ·obtain⟨n,I⟩:=u a h.symm;rw[E]at I;cases I;unfold Gm Sy;rw[if_pos h];by_cases m:t = []
  ·rw[if_pos m];trivial
  rw[if_neg m];exact⟨(Hz C m).1,⟨by show (-1:Int)<=-1;omega,by show (-1:Int)<=1000;omega,.inl rfl⟩⟩
 rcases Gn (F:=F) (w:=t) h with e|⟨i,f,H,rfl,L⟩
 ·rw[e];trivial
 rw[L];obtain⟨hi,_⟩:=A05.1 H;obtain⟨n,k,Q,j,_⟩:=hF.ok f (A1k H);rw[Q]at E;cases E;unfold I3;rcases j with ⟨J,K,U⟩|⟨J,K,U⟩
 ·rw[if_neg oV];by_cases m:t = []
  ·rw[if_pos m];split<;>trivial
  rw[if_neg m];subst K;exact⟨(Hz C m).1,⟨by show (-1:Int)<=(i:Int);omega,by show (i:Int)<=1000;omega,.inl rfl⟩⟩
 rw[if_pos J];refine⟨I7,⟨by show (-1:Int)<=(i:Int);omega,by show (i:Int)<=1000;omega,?_⟩⟩;rcases C with e|⟨_,R⟩|⟨e,_⟩|⟨e,_⟩
 ·exact .inl e
 ·exact .inr R
 ·omega
 omega
end
section
variable {F:List Al}{T:zC}{f:Al}{i:Nat}{lab:Int}{ss:zW}
structure Bw (T:zC)(ss:zW):Prop where
 len:ss.length=T.length
 val:∀ (i:Nat) (x:zB×Nat) (t:zB),T[i]?=some x->ss[i]?=some t->Rj x.2 t
def Bw.at (h:Bw T ss)(hi:i<ss.length):∃ x,T[i]?=some x/\Rj x.2 ss[i]:=by
 have:=h.len;have e:T[i]?=some (T[i]'oV):=A01 oV;exact⟨_,e,h.val i _ _ e (A01 hi)⟩
def Pp (ss:zW)(f:Al):Bool:=f.2.1==1&&f.2.2==1&&(ss.getD f.1 []).isEmpty
def G4 (F:List Al)(lab:Int)(ss:zW):Bool:=!(decide (0<=lab)&&(ss.getD lab.toNat []).isEmpty) && !F.any (Pp ss)
def Vz (hF:Da T F lab)(j:Bw T ss)(e:f∈F):f.1<ss.length:=by
 obtain⟨n,k,h,_⟩:=hF.ok f e;obtain⟨m,_⟩:=A05.1 h;have:=j.len;omega
def Qq (hF:Da T F lab)(t:Bw T ss)(h:F[i]?=some f):(Fh F lab ss)[f.1]?=some (I3 i f (ss.getD f.1 [])):=by
 have m:=A1k h;have j:=Vz hF t m;obtain⟨n,k,_,_,e⟩:=hF.ok f m;rw[Hg (w:=ss[f.1]) (A01 j),Zu hF.nodup h e];simp[A02,A01 j]
def Amw {l:Nat}(e:lab=(l:Int))(h:l<ss.length):(Fh F lab ss)[l]?=some (Sy (ss.getD l [])):=by
 rw[Hg (w:=ss[l]) (A01 h)];unfold Gm;rw[if_pos e.symm];simp[A02,A01 h]
def Acl (hF:Da T F lab)(X:Bw T ss)(h1:-1<=lab)(U:∀ l:Nat,lab=(l:Int)->l<ss.length):G4 F lab ss=true↔none∉Fh F lab ss:=by
 unfold G4;simp only[A1m,A3w,A8b,decide_eq_false_iff_not,Int.not_le];constructor
 ·rintro⟨a,b⟩ hm;obtain⟨i,hi,H⟩:=A2y hm;have m:(Fh F lab ss)[i]?=some none:=by rw[A01 hi,H]
  have u:i<ss.length:=by rw[G3]at hi;exact hi
  rw[Hg (w:=ss[i]) (A01 u)]at m;simp only[A1f]at m;by_cases t:(i:Int)=lab
  ·unfold Gm Sy at m;rw[if_pos t]at m;split at m
   ·rename_i he;rcases a with a|a
    ·omega
    rw[<-t]at a;simp[A02,A01 u,he]at a
   cases m
  rcases Gn (F:=F) (w:=ss[i]) t with e|⟨j,f,g1,g2,R⟩
  ·rw[e]at m;cases m
  rw[R]at m;unfold I3 at m;split at m
  ·cases m
  rename_i k2;split at m
  ·rename_i he;split at m
   ·rename_i k3;have C:=A1k g1;obtain⟨n,k,_,W,_⟩:=hF.ok f C;have Y:f.2.1=1:=by rcases W with ⟨h,_⟩|⟨h,_⟩;exact h;exact absurd h k2
    have:Pp ss f=true:=by
     unfold Pp;rw[g2];simp[Y,k3,A02,A01 u,he]
    have K:=A6p.1 b f C;rw[this]at K;exact absurd rfl K
   cases m
  cases m
 intro L;constructor
 ·rcases Bas (lab<0) with h|h
  ·exact .inl h
  right;obtain⟨l,I⟩:∃ l:Nat,lab=(l:Int):=⟨lab.toNat,oV⟩;have J:=U l I;have:=Amw (F:=F) I J;rw[I,A23];cases he:ss.getD l [] with
  |cons x y=>rfl
  |nil =>
   rw[he]at this;exact absurd (A1k this) (by simpa[Sy] using L)
 rw[A6p];intro f V E;obtain⟨i,hi,rfl⟩:=A2y V;have:=Qq hF X (A01 hi);unfold Pp at E;simp only[A1m,beq_iff_eq,List.isEmpty_iff]at E;obtain⟨⟨Z,P⟩,Q⟩:=E;rw[Q]at this;refine L ?_;have e:I3 i F[i] []=none:=by unfold I3;rw[if_neg oV,if_pos rfl,if_pos P]
 rw[e]at this;exact A1k this
noncomputable def cfT (F:List Al)(lab:Int)(ss:zW):CF:=Iv (CF.num 1) (Fh F lab ss)
def Ajl (hF:Da T F lab)(t:Bw T ss)(j:-1<=lab)(m:∀ l:Nat,lab=(l:Int)->l<ss.length)(e:G4 F lab ss=false):cfT F lab ss=CF.num 0:=by
 refine Am2 ?_;rcases Bas (none∈Fh F lab ss) with h|h
 ·exact h
 rw[(Acl hF t j m).2 h]at e;cases e
def Alr (hF:Da T F lab)(m:Bw T ss)(e:-1<=lab)(h:∀ l:Nat,lab=(l:Int)->l<ss.length)(j:G4 F lab ss=true):(cfT F lab ss).One :=
 We CF.One.num ((Acl hF m e h).1 j)
def Tv (hF:Da T F lab)(u:Bw T ss)(e:-1<=lab)(j:∀ l:Nat,lab=(l:Int)->l<ss.length)(t:G4 F lab ss=true){a:Nat}{p:Par}{q:Rat}(h:(Fh F lab ss)[a]?=some (some (some (p,q)))):(cfT F lab ss).s p=q :=
 Av3 CF.One.num ((Acl hF u e j).1 t) rfl h fun b C m=>Aoa e h m
def N0 {u:PH}{R:List Br}(ok:Bl u T R F lab)(h:Bw T ss):∀ x∈Fh F lab ss,x.Small:=fun x m=>by
 obtain⟨i,hi,rfl⟩:=A2y m;rw[G3]at hi;have e:=Hg (F:=F) (lab:=lab) (w:=ss[i]) (A01 hi);rw[A01 (by rw[G3];exact hi),A1f]at e;rw[e];obtain⟨y,t,j⟩:=h.at hi;exact Ahh ok.feat ok.l2 ok.f2 t j
end
section
variable {F:List Al}{T:zC}{f:Al}{i n:Nat}{lab:Int}{ss:zW}{x:Par×Rat}
noncomputable def Jf (ss:zW)(i:Nat)(f:Al):Option (Par×Rat) :=
 if f.2.1=2 then some (((i:Int),ss.getD f.1 []),1) else if ss.getD f.1 [] = []\/ss.getD f.1 [] = [48] then none else some (((i:Int),[]),Lk (ss.getD f.1 []))
noncomputable def Dx (F:List Al)(ss:zW)(n:Nat):List (Par×Rat):=(F.zipIdx.take n).filterMap fun p=>Jf ss p.2 p.1
def Ana (F:List Al)(ss:zW):Dx F ss 0 = []:=rfl
def Aaj (h:F[i]?=some f):F.zipIdx[i]?=some (f,i):=by
 rw[A92,h];simp
def Aab (h:F[i]?=some f):Dx F ss (i+1)=Dx F ss i++(Jf ss i f).toList:=by
 unfold Dx;rw[A1n,Aaj h,List.filterMap_append];cases e:Jf ss i f with
 |none=>simp[e]
 |some x=>simp[e]
def F9 :x∈Dx F ss n↔∃ i f,i<n/\F[i]?=some f/\Jf ss i f=some x:=by
 unfold Dx;rw[Baa];constructor
 ·rintro⟨⟨f,i⟩,hm,he⟩;obtain⟨j,h,e⟩:=A2y hm;rw[A1e]at h;rw[A7w,List.getElem_zipIdx]at e;cases e;refine⟨j,_,oV,A01 (by have:=h;simp at this;omega),?_⟩;simpa using he
 rintro⟨i,f,hi,hf,he⟩;refine⟨(f,i),?_,he⟩;have:(F.zipIdx.take n)[i]?=some (f,i):=by rw[A3y,if_pos hi,Aaj hf]
 exact A1k this
def Ow (h:Jf ss i f=some x):x.1.1=(i:Int):=by
 unfold Jf at h;split at h
 ·cases h;rfl
 split at h
 ·cases h
 cases h;rfl
def Nb (F:List Al)(ss:zW):∀ n,n<=F.length->((Dx F ss n).map (·.1)).Nodup
 |0,_=>by rw[Ana];simp
 |n+1,hn=>by
  rw[Aab (A01 (show n<F.length by omega)),A1i];rw[A4p];refine⟨Nb F ss n oV,?_,fun a m b t e=>?_⟩
  ·cases Jf ss n F[n]<;>simp
  subst e;obtain⟨x,C,rfl⟩:=A1b.1 m;obtain⟨i,f,hi,_,u⟩:=F9.1 C;obtain⟨y,E,h⟩:=A1b.1 t;have j:Jf ss n F[n]=some y:=by simpa using E
  have:=Ow u;have:=Ow j;rw[h]at this;omega
def Bdl (F:List Al)(ss:zW)(n:Nat):(Dx F ss n).length<=F.length:=by
 unfold Dx;refine A04 (List.length_filterMap_le ..) ?_;rw[A1e,List.length_zipIdx];omega
def S3 (hF:Da T F lab)(u:Bw T ss)(m:f∈F)(E:f.2.1≠2)(h0:ss.getD f.1 []≠[]):SmW (Lk (ss.getD f.1 []))/\Ae (Lk (ss.getD f.1 []))=ss.getD f.1 []:=by
 obtain⟨n,k,H,j,_⟩:=hF.ok f m;have t:=Vz hF u m;have e:ss.getD f.1 []=ss[f.1]:=by simp[A02,A01 t]
 have C:=u.val f.1 _ _ H (A01 t);rw[<-e]at C;rcases j with ⟨_,rfl,_⟩|⟨h,_⟩
 ·exact Hz C h0
 exact absurd h E
def Um {t:zB}(h:Ae (Lk t)=t):Lk t=0↔t = [48]:=by
 constructor
 ·intro e;rw[<-h,e];exact Fz
 intro e;refine A3m fun j=>?_;exact Sf j (h.trans e)
theorem An5 (hF:Da T F lab)(ht:Bw T ss)(hx:x∈Dx F ss n):x.2≠0/\∃ a:Nat,(Fh F lab ss)[a]?=some (some (some x)):=by
 obtain⟨i,f,_,hf,hv⟩:=F9.1 hx;have hm:=A1k hf;have hl:=Qq hF ht hf;unfold Jf at hv;unfold I3 at hl;split at hv
 ·rename_i h2;cases hv;rw[if_pos h2]at hl;exact⟨(by decide:(1:Rat)≠0),_,hl⟩
 ·rename_i h2;split at hv
  ·cases hv
  ·rename_i h0;cases hv;rw[if_neg h2,if_neg (fun e=>h0 (.inl e))]at hl;refine⟨fun e=>h0 (.inr ?_),_,hl⟩;exact (Um (S3 hF ht hm h2 (fun e=>h0 (.inl e))).2).1 e
noncomputable def Ax2 (lab:Int)(ss:zW):List (Par×Rat):=if 0<=lab/\ss.getD lab.toNat []≠[48] then [((-1,[]),Lk (ss.getD lab.toNat []))] else []
def As8 (hF:Da T F lab)(K:Bw T ss)(L:-1<=lab){a:Nat}(h:(Fh F lab ss)[a]?=some (some (some x)))(H:x.2≠0)(u:∀ l:Nat,lab=(l:Int)->ss.getD l [] = [48]->Lk (ss.getD l [])=0):x∈Ax2 lab ss++Dx F ss F.length:=by
 have t:a<ss.length:=by
  obtain⟨E,_⟩:=A05.1 h;rw[G3]at E;exact E
 have m:ss.getD a []=ss[a]:=by simp[A02,A01 t]
 rw[Hg (w:=ss[a]) (A01 t)]at h;simp only[A1f]at h;by_cases j:(a:Int)=lab
 ·unfold Gm Sy at h;rw[if_pos j]at h;split at h
  ·cases h
  cases h;refine A24 _ ?_;unfold Ax2;have C:ss[a]≠[48]:=fun e=>H (by
   have:=u a j.symm;rw[m]at this;exact this e)
  rw[<-j,A23,m,if_pos ⟨oV,C⟩];exact A12.2 rfl
 rcases Gn (F:=F) (w:=ss[a]) j with e|⟨i,f,g1,g2,I⟩
 ·rw[e]at h;cases h
 rw[I]at h;refine A6v _ (F9.2 ⟨i,f,(A05.1 g1).1,g1,?_⟩);have J:=A1k g1;unfold I3 at h;unfold Jf;rw[g2,m];split at h
 ·rename_i h2;cases h;rw[if_pos h2]
 rename_i h2;split at h
 ·split at h<;>cases h
 rename_i h0;cases h;rw[if_neg h2,if_neg];rintro (e|e)
 ·exact h0 e
 refine H ?_;have:=S3 hF K J h2 (by rw[g2,m];exact h0);rw[g2,m]at this;exact (Um this.2).2 e
end
section
variable {F:List Al}{R:List Br}{T:zC}{i:Nat}{lab:Int}{ss:zW}{tv v:Value}{u:PH}
structure Mv (u:PH)(v tv:Value)(T:zC)(R:List Br)(F:List Al)(lab:Int)(ss:zW):Prop where
 sch:H5 u v T R F lab
 ok:Bl u T R F lab
 lst:Ac u tv 1 (ss.map nmV)
 fit:Bw T ss
def Mv.mono {u j:PH}{v tv:Value}{T:zC}{R:List Br}{F:List Al}{lab:Int}{ss:zW}(h:Mv u v tv T R F lab ss)(e:PH.le u j):Mv j v tv T R F lab ss :=
 ⟨h.sch.mono e,h.ok.mono e,h.lst.mono e,h.fit⟩
def Mv.lt (h:Mv u v tv T R F lab ss):∀ l:Nat,lab=(l:Int)->l<ss.length:=fun l e=>by
 obtain⟨n,j⟩:=h.ok.l2 l e;obtain⟨m,_⟩:=A05.1 j;have:=h.fit.len;omega
def M5 {a:zP}{n c:Nat}(h:Ac u (.slice a n c) 1 (ss.map nmV))(hi:i<ss.length):∃ b off,a=some ⟨b,off,none⟩/\ElP u b (off+i*1) (zS (ss.getD i [])):=by
 have e:ss.getD i []=ss[i]:=by simp[A02,A01 hi]
 rw[e];exact Ac.at' h (j:=i) (by simp[nmV,A01 hi])
def Lm (h:Mv u v tv T R F lab ss) :
 zF 89 [v,tv] u fun r _=>r=zO:=by
 have I:=fun (U:PH) (l:PH.le u U)=>Adn (h.sch.mono l) (h.ok.mono l);obtain⟨⟨xa,xc,xb,xd,xe,xf,rfl,H,Y,W⟩,ok,E,hT⟩:=h;obtain⟨ya,V,rfl⟩:=E.opn;rw[A03]at E⊢;have Q:=hT.len;have t2:=ok.t2;refine Fn0.o func89<|G.c call98 (I u (PH.le_refl _)) ?_;rintro v1 u1 Z rfl;refine G.nF 0 0<|G.nF ss.length T.length<|G.l (ι:=Nat) (fun i=>[(2,.p 0 0),(19,sV ya ss.length V),(20,iV ss.length),(21,iV i)])
  (fun _=>[(0,⟨30,[sV xa T.length xc,sV xb R.length xd,sV xe F.length xf,iV lab]⟩)])
  (fun i U m'=>i<=ss.length/\m'=PH.mt) (fun i=>ss.length-i) 0 ⟨oV,rfl⟩ ?_
 rintro J i X u2 m2 l2 ⟨hi,rfl⟩;have C:=Z.trans l2;by_cases m:i<ss.length
 ·refine G.lT i ss.length ?_;obtain⟨b,off,rfl,e⟩:=M5 (E.mono C) m;refine G.N ss.length V m e ?_;have t:T[i]?=some T[i]:=A01 oV;have K:=ok.att.kind T[i] (A09 oV);have L:=hT.val i _ _ t (A01 m);rw[show ss[i]=ss.getD i [] by simp[A02,A01 m]]at L;obtain⟨ba,oa,rfl,P⟩:=Ac.at' (H.mono C) (j:=i) (e:=D9 T[i]) (by simp[t]);generalize T[i]=x at t K L P;refine G.n T.length xc P<|G.c call158 (Ax7 K.1 K.2 L) ?_;rintro v3 u3 l3 rfl;exact G.i i<|G.b (X (i+1) _ _ _ cV (l2.trans l3) ⟨oV,rfl⟩ oV)
 obtain rfl:i=ss.length:=oV;exact G.lF ss.length ss.length<|G.z zO
def Aig {u m:PH}{v cap:Value}{T:List Al}{fid:Nat}(p:Al->Bool)(r:Bool)(C:T.any p=r)(h:Ac u v 3 (T.map Cm))(I:T.length<=1000000)
 (j:∀ args w,(callFunc fid args).run prog w=.ok (.enter fid args) w) (H:∀ f∈T,∀ E,PH.le u E->FnK prog fid [Cm f,cap] E m fun v _=>v=.bool (p f)) :
 FnK prog 159 [v,.func (.func fid) #[] #[cap]] u m fun J _=>J=.bool r:=by
 obtain⟨a,c,rfl⟩:=h.opn;refine FnK.of func159 kV kV<|G.callK _ _ kV call219 (Alt (cap:=cap) p h I j H) ?_;rintro P L K rfl;cases r with
 |true =>
  obtain⟨x,t,hp⟩:=A5h.1 C;have:0<=Ad1 p T:=by
   unfold Ad1;cases e:T.findIdx? p with
   |none=>exact absurd hp (by rw[List.findIdx?_eq_none_iff.1 e x t];simp)
   |some k=>simp only;omega
  exact G.hT (Ad1 p T) 0<|G.z zT
 |false =>
  have h0:=A6p.1 C;rw[Abp fun x t=>by simpa using h0 x t];exact G.hF (-1) 0<|G.z zL
def Axg {u m:PH}{f:Al}{b:Nat}{H:zP}{j:Nat}(J:ElP m b 0 (.slice H ss.length j))(I:Ac u (.slice H ss.length j) 1 (ss.map nmV))(h:f.1<ss.length) :
 FnK prog 160 [Cm f,.pointer (zA b)] u m fun v _=>v=.bool (Pp ss f):=by
 obtain⟨f1,f2,t⟩:=f;simp only at h;refine FnK.of func160 kV kV ?_;unfold Pp;simp only;by_cases C:f2=1
 ·subst C;refine G.eT (1:Nat) 1 ?_;by_cases E:t=1
  ·subst E;refine G.eT (1:Nat) 1<|G.v none J ?_;obtain⟨K,off,rfl,e⟩:=M5 I h;refine G.N ss.length j h e ?_;by_cases h0:ss.getD f1 [] = []
   ·exact G.q (ss.getD f1 []) [] h0<|G.r zT ⟨rfl,by rw[h0];rfl⟩
   refine G.w (ss.getD f1 []) [] h0 ?_;exact G.r zL ⟨rfl,by
    cases hx:ss.getD f1 [] with
    |nil=>exact absurd hx h0
    |cons x y=>rfl⟩
  exact G.eF t 1<|G.r zL ⟨rfl,by simp[E]⟩
 exact G.eF f2 1<|G.r zL ⟨rfl,by simp[C]⟩
def Yv (h:Mv u v tv T R F lab ss) :
 zF 90 [v,tv] u fun r _=>r=.bool (G4 F lab ss):=by
 have H:=Lm h;have U:=h.lt;obtain⟨⟨xa,xc,xb,xd,xe,xf,rfl,a1,a0,K⟩,ok,J,hT⟩:=h;obtain⟨I,t,rfl⟩:=J.opn;rw[A03]at J H⊢;have f2:=ok.f2;refine Fn0.o func90<|G.c call89 H ?_;rintro v1 Y V rfl;refine G.nF 0 0 ?_;have j:∀ (m:PH) (b:Nat),ElP m b 0 (.slice I ss.length t)->∀ W,PH.le u W->FnK prog 159 [.slice xe F.length xf,.func (.func 160) #[] #[.pointer (zA b)]] W m fun v' _=>v'=.bool (F.any (Pp ss)):=fun m b hb W l =>
  Aig (Pp ss) _ rfl (K.mono l) oV call160 fun f hf a2 l'=>Axg hb (J.mono (l.trans l')) (Vz ok.feat hT hf)
 have C:∀ b:Nat,ElP (PH.mt.upd b (.cells [Value.slice I ss.length t].toArray 51 (0,0))) b 0 (.slice I ss.length t):=fun b=>My (xs:=[.slice I ss.length t]) (Ab _ _ _) rfl;unfold G4;by_cases X:lab<0
 ·refine G.hF lab 0<|G.pub 1 51 [.slice I ss.length t] kV kV ?_;intro b L P;refine G.callK _ _ kV call159 (j _ b (C b) Y V) ?_;rintro v2 u2 l2 rfl;rw[decide_eq_false oV];cases F.any (Pp ss) with
  |true =>
   exact G.drop PH.mt kV (PH.mt_le _)<|G.z zL
  |false =>
   exact G.drop PH.mt kV (PH.mt_le _)<|G.z zT
 obtain⟨l,rfl⟩:∃ l:Nat,lab=(l:Int):=⟨lab.toNat,oV⟩;have E:=U l rfl;rw[decide_eq_true oV,A23];refine G.hT l 0 ?_;obtain⟨Z,off,rfl,e⟩:=M5 (J.mono V) E;refine G.N ss.length t E e ?_;by_cases h0:ss.getD l [] = []
 ·exact G.q (ss.getD l []) [] h0<|G.r zL ⟨rfl,by rw[h0];rfl⟩
 have Q:(ss.getD l []).isEmpty=false:=by
  cases hx:ss.getD l [] with
  |nil=>exact absurd hx h0
  |cons x y=>rfl
 rw[Q];refine G.w (ss.getD l []) [] h0<|G.pub 1 51 [.slice (some ⟨Z,off,none⟩) ss.length t] kV kV ?_;intro b L P;refine G.callK _ _ kV call159 (j _ b (C b) Y V) ?_;rintro v2 u2 l2 rfl;cases F.any (Pp ss) with
 |true =>
  exact G.drop PH.mt kV (PH.mt_le _)<|G.z zL
 |false =>
  exact G.drop PH.mt kV (PH.mt_le _)<|G.z zT
def Amh (h:Mv u v tv T R F lab ss) :
 zF 136 [v,tv] u fun r _=>r=if lab<0\/ss.getD lab.toNat [] = [] then .tuple #[zS [48],zL] else .tuple #[zS (ss.getD lab.toNat []),zT]:=by
 have t:=Lm h;have E:=h.lt;obtain⟨⟨xa,xc,V,W,X,Y,rfl,K,J,I⟩,ok,C,hT⟩:=h;obtain⟨Z,H,rfl⟩:=C.opn;rw[A03]at C t⊢;refine Fn0.o func136<|G.c call89 t ?_;rintro U Q L rfl;refine G.nF 0 0 ?_;by_cases m:lab<0
 ·exact G.lT lab 0<|G.r (.tuple #[zS [48],zL]) ⟨rfl,by rw[if_pos (.inl m)]⟩
 obtain⟨l,rfl⟩:∃ l:Nat,lab=(l:Int):=⟨lab.toNat,oV⟩;have j:=E l rfl;rw[A23];refine G.lF l 0 ?_;obtain⟨P,off,rfl,e⟩:=M5 (C.mono L) j;refine G.N ss.length H j e ?_;by_cases h0:ss.getD l [] = []
 ·exact G.q (ss.getD l []) [] h0<|G.r (.tuple #[zS [48],zL]) ⟨rfl,by rw[if_pos (.inr h0)]⟩
 exact G.w (ss.getD l []) [] h0<|G.N ss.length H j e<|G.r (.tuple #[zS (ss.getD l []),zT]) ⟨rfl,by rw[if_neg (fun e=>e.elim oV h0)]⟩
def A0n (h:i<=8):1374926400^i<10^100:=A22 (A10 oV h) jV
def Azz (h:i<8):8*(1374926400^i*343731600)<10^100:=by
 have e:1374926400^i<=1374926400^8:=A10 oV oV;have j:1374926400^8<10^80:=jV
 have m:(10:Nat)^80*100000000000<10^100:=jV
 omega
def Aql (h:Mv u v tv T R F lab ss) :
 zF 208 [v,tv] u fun r C=>∃ j m,r=.func (.func 251) #[] #[.pointer (zA j),.pointer (zA m)]/\ElP C j 0 v/\ElP C m 0 tv:=by
 obtain⟨⟨xa,xc,E,H,I,J,rfl,Z,X,W⟩,ok,Y,hT⟩:=h;obtain⟨K,L,rfl⟩:=Y.opn;rw[A03];have hc:Ag prog 208 [.agg #[.slice xa T.length xc,.slice E R.length H,.slice I F.length J,zI lab],.slice K ss.length L] u PH.mt (fun r C Q=>∃ j m,r=.func (.func 251) #[] #[.pointer (zA j),.pointer (zA m)]/\ElP Q j 0 (.agg #[.slice xa T.length xc,.slice E R.length H,.slice I F.length J,zI lab])/\ElP Q m 0 (.slice K ss.length L)):=by
  refine Ag.o func208<|G.pastI<|G.pub 0 30 [.slice xa T.length xc,.slice E R.length H,.slice I F.length J,zI lab] kV kV ?_;intro j a1 a0;refine G.pub 1 51 [.slice K ss.length L] kV kV ?_;intro m a2 t;have P:j≠m:=fun e=>by subst e;rw[Ab]at t;cases t
  exact G.r (.func (.func 251) #[] #[.pointer (zA j),.pointer (zA m)]) ⟨j,m,rfl,My (xs:=[.slice xa T.length xc,.slice E R.length H,.slice I F.length J,zI lab]) (by rw[Ad _ _ P,Ab]) rfl,My (xs:=[.slice K ss.length L]) (Ab _ _ _) rfl⟩
 refine Fn0.weak hc.giveAll ?_;rintro r C ⟨u1,m1,_,l2,j,m,e,U,V⟩;exact⟨j,m,e,U.mono l2,V.mono l2⟩
end
def ElP.sub {u:PH}{b off:Nat}{e x:Value}{k:Nat}(h:ElP u b off e)(C:∀ i y,x.cells[i]?=some y->e.cells[k+i]?=some y):ElP u b (off+k) x:=fun i y E=>by
 obtain⟨cs,t,fr,j,m⟩:=h (k+i) y (C i y E);exact⟨cs,t,fr,j,by rw[A3p];exact m⟩
def Acq.mono {P:Program}{l:Nat}{args:zV}{u m:PH}{K C:Value->PH->PH->Prop}(h:Acq P l args u m K)(R:∀ v t j,K v t j->C v t j):Acq P l args u m C:=fun w Q=>by
 obtain⟨fn,tmps,assign,body,J,L⟩:=h w Q;exact⟨fn,tmps,assign,body,J,RoundIn.mono L fun e w' ⟨v,t,j,E,F,H,I⟩=>⟨v,t,j,E,F,H,R _ _ _ I⟩⟩
def Bcw {u m:PH}{l b1 b2:Nat}{v tv:Value}{T:zC}{R:List Br}{F:List Al}{lab:Int}{ss:zW}(h:Mv u v tv T R F lab ss)(aa:ElP u b1 0 v)(a3:ElP u b2 0 tv)(J:List (Par×Rat)->PH->PH->Prop)(D:PH->PH->Prop)
 (ab:∀ L H a0 K,PH.le H a0->J L H K->J L a0 K)
 (hY:∀ (i:Nat) (x:Par×Rat) H K,i<F.length->PH.le u H->J (Dx F ss i) H K->x∈Dx F ss F.length->x.1.1=(i:Int)->Acq prog l [Ap x.1,zS (Ae x.2)] H K fun r a0 a8=>r=zT/\J (Dx F ss i++[x]) a0 a8\/r=zL/\D a0 a8)
 (h0:J [] u m):Ag prog 251 [.func (.yield l) #[] #[],.pointer (zA b1),.pointer (zA b2)] u m fun _ H K=>J (Dx F ss F.length) H K\/D H K:=by
 obtain⟨⟨xa,xc,xb,xd,xe,xf,rfl,ad,ac,a9⟩,ok,hS,hT⟩:=h;obtain⟨ya,yc,rfl⟩:=hS.opn;rw[A03]at hS a3;have ae:=ok.f2;have Q:=ok.feat;have e2:ElP u b1 (0+2) (.slice xe F.length xf):=aa.sub (k:=2) fun i y X=>by
  match i,X with
  |0,X=>simpa[Value.cells] using X
  |i+1,X=>simp[Value.cells]at X
 refine Ag.o func251<|G.f 30 b1 0 2 2<|G.g none e2<|G.l (ι:=Nat) (fun i=>[(0,.v (.func (.yield l) #[] #[])),(2,.v (.pointer (zA b2))),(9,sV xe F.length xf),(10,iV F.length),(11,iV i)]) (fun _=>[])
  (fun i H K=>i<=F.length/\J (Dx F ss i) H K) (fun i=>F.length-i) 0 ⟨oV,h0⟩ ?_
 rintro Jl i hJ u1 m1 l1 ⟨hi,C⟩;by_cases V:i<F.length
 ·refine G.lT i F.length ?_;have a1:F[i]?=some F[i]:=A01 V;have a4:=A09 V;have U:=Vz Q hT a4;have E:=Aab (ss:=ss) a1;have I:=fun h2 h0=>S3 Q hT a4 h2 h0;have a7:∀ x,Jf ss i F[i]=some x->x∈Dx F ss F.length:=fun x hx=>F9.2 ⟨i,F[i],V,a1,hx⟩;obtain⟨fb,fo,rfl,ef⟩:=Ac.at' (a9.mono l1) (j:=i) (e:=Cm F[i]) (by simp[a1]);have step:=fun (x:Par×Rat) (hx:Jf ss i F[i]=some x) (H K:PH) (hl:PH.le u1 H) (hj:J (Dx F ss i) H K)=>hY i x H K V (l1.trans hl) hj (a7 x hx) (Ow hx);have Z:Jf ss i F[i]=none->Dx F ss (i+1)=Dx F ss i:=fun e=>by rw[E,e];simp
  have P:∀ x,Jf ss i F[i]=some x->Dx F ss (i+1)=Dx F ss i++[x]:=fun x e=>by rw[E,e];simp
  clear E a7;generalize F[i]=f at a1 a4 U I ef step Z P;obtain⟨f1,f2,f3⟩:=f;simp only at U I;refine G.N F.length xf V ef<|G.g none (a3.mono l1) ?_;obtain⟨b,off,rfl,e⟩:=M5 (hS.mono l1) U;refine G.N ss.length yc U e ?_;by_cases a5:f2=2
  ·subst a5;have hv:Jf ss i (f1,2,f3)=some (((i:Int),ss.getD f1 []),1):=by unfold Jf;rw[if_pos rfl]
   refine G.eT (2:Nat) 2<|G.g none (a3.mono l1)<|G.N ss.length yc U e<|G.yreg [0,1,2,3,4,5,6,7,8,9] 10 [11,12] kV ?_;intro Jy W Y;refine G.x [49] [] mV<|G.x [49] [48] mV ?_;have X:=step _ hv u1 m1 (PH.le_refl _) C;rw[Sv]at X;refine G.b (Y _ _ _ l _ _ kV X ?_);rintro v2 u2 m2 l2 (⟨rfl,hJ2⟩|⟨rfl,hD2⟩)
   case inr=>exact G.r (.tuple #[]) (.inr hD2)
   rw[<-P _ hv]at hJ2;exact G.i i<|G.b (hJ (i+1) _ _ _ cV (l1.trans l2) ⟨oV,hJ2⟩ oV)
  refine G.eF f2 2 ?_;have t:Jf ss i (f1,f2,f3)=if ss.getD f1 [] = []\/ss.getD f1 [] = [48] then none else some (((i:Int),[]),Lk (ss.getD f1 [])):=by unfold Jf;rw[if_neg a5]
  have I:=I a5;generalize ss.getD f1 []=w at t I e;by_cases a2:w = []
  ·subst a2;rw[if_pos (.inl rfl)]at t;refine G.yreg [0,1,2,3,4,5,6,7,8,9] 10 [11,12] kV ?_;intro Jy W Y;refine G.y [] [] rfl<|G.b (W _ _ _ kV ?_);rw[<-Z t]at C;exact G.i i<|G.b (hJ (i+1) _ _ _ cV l1 ⟨oV,C⟩ oV)
  by_cases a6:w = [48]
  ·subst a6;rw[if_pos (.inr rfl)]at t;refine G.yreg [0,1,2,3,4,5,6,7,8,9] 10 [11,12] kV ?_;intro Jy W Y;refine G.x [48] [] mV<|G.y [48] [48] rfl<|G.b (W _ _ _ kV ?_);rw[<-Z t]at C;exact G.i i<|G.b (hJ (i+1) _ _ _ cV l1 ⟨oV,C⟩ oV)
  rw[if_neg (fun e=>e.elim a2 a6)]at t;refine G.yreg [0,1,2,3,4,5,6,7,8,9] 10 [11,12] kV ?_;intro Jy W Y;refine G.x w [] a2<|G.x w [48] a6 ?_;have X:=step _ t u1 m1 (PH.le_refl _) C;rw[(I a2).2]at X;refine G.b (Y _ _ _ l _ _ kV X ?_);rintro v2 u2 m2 l2 (⟨rfl,hJ2⟩|⟨rfl,hD2⟩)
  case inr=>exact G.r (.tuple #[]) (.inr hD2)
  rw[<-P _ t]at hJ2;exact G.i i<|G.b (hJ (i+1) _ _ _ cV (l1.trans l2) ⟨oV,hJ2⟩ oV)
 obtain rfl:i=F.length:=oV;exact G.lF F.length F.length<|G.r (.tuple #[]) (.inl C)
def Arp {u m:PH}{l P Q:Nat}{v U:Value}{T:zC}{R:List Br}{F:List Al}{lab:Int}{ss:zW}(h:Mv u v U T R F lab ss)(H:ElP u P 0 v)(I:ElP u Q 0 U)(J:List (Par×Rat)->PH->PH->Prop)
 (E:∀ L j C t,PH.le j C->J L j t->J L C t)
 (hY:∀ (i:Nat) (x:Par×Rat) j t,i<F.length->PH.le u j->J (Dx F ss i) j t->x∈Dx F ss F.length->x.1.1=(i:Int)->Acq prog l [Ap x.1,zS (Ae x.2)] j t fun r C K=>r=zT/\J (Dx F ss i++[x]) C K)
 (h0:J [] u m):Ag prog 251 [.func (.yield l) #[] #[],.pointer (zA P),.pointer (zA Q)] u m fun _ j t=>J (Dx F ss F.length) j t:=fun w hg =>
 Calls.mono (Bcw h H I J (fun _ _=>False) E (fun i x j t Z h2 h3 h4 h5=>(hY i x j t Z h2 h3 h4 h5).mono fun _ _ _ h=>.inl h) h0 w hg) fun e w' ⟨v,j,t,V,W,X,Y⟩=>⟨v,j,t,V,W,X,Y.resolve_right id⟩
section
variable {c x y:Code}{id:Nat}
def Lb:Code->Option (Operand×Array Tmp×Code×Code)
 |.seq a b=>match Lb a with|some x=>some x|none=>Lb b
 |.block _ a=>Lb a
 |.loop a=>Lb a
 |.cond _ a b=>match Lb a with|some x=>some x|none=>Lb b
 |.rangeFunc g ps x y=>some (g,ps,x,y)
 |_=>none
def rfG (fn:Func):Operand:=match Lb (Qd fn) with|some x=>x.1|none=>.tmp 0
def A0v (fn:Func):Array Tmp:=match Lb (Qd fn) with|some x=>x.2.1|none=>#[]
def rfX (fn:Func):Code:=match Lb (Qd fn) with|some x=>x.2.2.1|none=>.skip
def rfY (fn:Func):Code:=match Lb (Qd fn) with|some x=>x.2.2.2|none=>.skip
def Az5:Code->Bool
 |.seq _ _=>true
 |_=>false
def A0q:Code->Code
 |.seq a _=>a
 |_=>.skip
def A0w:Code->Code
 |.seq _ b=>b
 |_=>.skip
def A0r:Code->Bool
 |.block _ _=>true
 |_=>false
def A0f:Code->Code
 |.block _ a=>a
 |_=>.skip
def rgB:Code->Bool
 |.region _ ops false=>M3 ops
 |_=>false
def rgI:Code->Nat
 |.region id _ _=>id
 |_=>0
def rgO:Code->Array Oper
 |.region _ ops _=>ops
 |_=>#[]
def cnB:Code->Bool
 |.cond _ _ _=>true
 |_=>false
def cnX:Code->Operand
 |.cond x _ _=>x
 |_=>.tmp 0
def cnZ:Code->Code
 |.cond _ _ z=>z
 |_=>.skip
def skB:Code->Bool
 |.skip=>true
 |_=>false
def RW (P:Program)(l:Nat)(c:Code)(J:S->PH->PH->Prop)(s:S)(u m:PH):Prop :=
 ∀ (cx:Cx) (ρ:Nat->Nat) (a:Act) (w:World),Rel cx s u m ρ a w->c.wpIn (Fence.wide.inRound l) 0 P (Exit.then (fun a w=>∃ s u m ρ,Rel cx s u m ρ a w/\J s u m) (fun _ _ _=>False)) a w
section
variable {P:Program} {l:Nat} {J J':S->PH->PH->Prop} {s:S} {u m:PH}
def RW.skip (h:J s u m):RW P l .skip J s u m:=fun j ρ a w e=>wpIn_skip ⟨s,u,m,ρ,e,h⟩
def RW.seq (h:RW P l x (fun s u m=>RW P l y J s u m) s u m):RW P l (.seq x y) J s u m:=fun j ρ a w F=>wpIn_seq (wpIn_mono (h j ρ a w F) fun e a w t=>by
 cases e with
 |normal=>obtain⟨s,u,m,ρ,C,E⟩:=t;exact E j ρ a w C
 |_=>exact t)
def RW.block (h:RW P l x J s u m):RW P l (.block id x) J s u m:=fun t ρ a w C=>wpIn_block (wpIn_mono (h t ρ a w C) fun e a w j=>by
 cases e with
 |normal=>exact j
 |_=>exact j.elim)
def RW.condF {x:Operand}{y z:Code}(j:s.ev x=.v zL)(h:RW P l z J s u m):RW P l (.cond x y z) J s u m:=fun t ρ a w e =>
 wpIn_cond_false (by rw[e.eval x (by rw[j];simp),j];rfl) (h t ρ a w e)
def RW.reg [A6 P]{e:Array Oper}(fn:Func)(j:M3 e=true)(h:∀ (Post:Ce) (J':S->PH->PH->Prop),(∀ s u m,J s u m->J' s u m)->G P fn Post ([.reg id e false (List.range e.size),.lp J'],s) u m):RW P l (.region id e false) J s u m:=fun t ρ a w F =>
 Az8 (Aju l) j (h ⟨fun _ _ _=>False,t.m0⟩ J fun _ _ _ h=>h) F rfl fun s u m ρ a w C E=>⟨s,u,m,ρ,C,E⟩
end
def Ag.weak {P:Program}{f:FuncId}{args:zV}{u m:PH}{R C:Value->PH->PH->Prop}(h:Ag P f args u m R)(L:∀ v t j,R v t j->C v t j):Ag P f args u m C:=fun w K=>Calls.mono (h w K) fun e w' ⟨v,t,j,E,F,H,I⟩=>⟨v,t,j,E,F,H,L _ _ _ I⟩
def RW.seq' {P:Program}{l:Nat}{J:S->PH->PH->Prop}{s:S}{u m:PH}(e:Az5 c=true)(h:RW P l (A0q c) (fun s u m=>RW P l (A0w c) J s u m) s u m):RW P l c J s u m:=by
 cases c<;>first|exact RW.seq h|cases e
def RW.block' {P:Program}{l:Nat}{J:S->PH->PH->Prop}{s:S}{u m:PH}(e:A0r c=true)(h:RW P l (A0f c) J s u m):RW P l c J s u m:=by
 cases c<;>first|exact RW.block h|cases e
def RW.skip' {P:Program}{l:Nat}{J:S->PH->PH->Prop}{s:S}{u m:PH}(e:skB c=true)(h:J s u m):RW P l c J s u m:=by
 cases c<;>first|exact RW.skip h|cases e
def RW.condF' {P:Program}{l:Nat}{J:S->PH->PH->Prop}{s:S}{u m:PH}(e:cnB c=true)(j:s.ev (cnX c)=.v zL)(h:RW P l (cnZ c) J s u m):RW P l c J s u m:=by
 cases c<;>first|exact RW.condF j h|cases e
def RW.reg' {P:Program}[A6 P]{l:Nat}{J:S->PH->PH->Prop}{s:S}{u m:PH}(fn:Func)(e:rgB c=true)(h:∀ (Post:Ce) (J':S->PH->PH->Prop),(∀ s u m,J s u m->J' s u m)->G P fn Post ([.reg (rgI c) (rgO c) false (List.range (rgO c).size),.lp J'],s) u m):RW P l c J s u m:=by
 cases c with
 |region id ops dr =>
  cases dr with
  |false=>exact RW.reg fn e h
  |true=>cases e
 |_=>cases e
def Vg (r:Loop):Loop:={ r with state:=.busy }
def Aje (p q:Nat)(a b:Value)(t:Array Value):((#[p,q].zip [a,b].toArray).foldl (fun tmps (t,a)=>tmps.setIfInBounds t a) t)=(t.setIfInBounds p a).setIfInBounds q b:=mV
theorem Amn {P:Program}{l n:Nat}{r:Loop}{args:zV}{T:List (Nat×Value)}{u m:PH}{K:PH->PH->Prop}(hm:m l=some (.loop r))(hr:r.state=.ready)(hp:r.pending=none)(hs:args.length=r.params.size)
 (hn:r.tmps.size=n) (hT:∀ x∈T,((r.params.zip args.toArray).foldl (fun tmps (t,a)=>tmps.setIfInBounds t a) r.tmps)[x.1]?=some x.2)
 (h:RW P l r.assign (fun s u1 W=>W l=some (.loop r)/\RW P l r.body (fun _ u2 m2=>m2 l=some (.loop (Vg r))/\K u2 (m2.upd l (.loop r))) s u1 (W.upd l (.loop (Vg r)))) (S.ofT n T) u m) :
 Acq P l args u m fun v u' m'=>v=zT/\K u' m':=by
 intro w H;have hl:=H.pm l _ hm;have a0:((r.params.zip args.toArray).foldl (fun tmps (t,a)=>tmps.setIfInBounds t a) r.tmps).size=n:=by
  rw[<-hn,<-A99];generalize (r.params.zip args.toArray).toList=L;generalize r.tmps=t0;induction L generalizing t0 with
  |nil=>rfl
  |cons x L ih=>grind
 refine⟨r.fn,_,r.assign,r.body,run_yield hl (by simpa using hs),roundIn_of_wpIn trivial ?_⟩;have C:=Rel.start (T:=T) H (tmps:=(r.params.zip args.toArray).foldl (fun tmps (t,a)=>tmps.setIfInBounds t a) r.tmps) hT;rw[a0]at C;refine wpIn_mono (h _ _ _ _ C) fun e a1 w1 hq=>?_;cases e with
 |normal =>
  obtain⟨s1,u1,W,ρ1,j,V,h2⟩:=hq;have Y:=j.gd.pm l _ V;have I:∀ k b,s1.hp k=some b->ρ1 k≠l:=fun k b F e=>by
   obtain⟨_,_,_,U⟩:=j.box k b F;rw[e,V]at U;cases U
  obtain⟨g1,g2⟩:=j.gd.putO (o':=.loop (Vg r)) V rfl;have r2:Rel ⟨w,u,m⟩ s1 u1 (W.upd l (.loop (Vg r))) ρ1 a1 (w1.putObj l (.loop (Vg r))):=by
   refine⟨j.sz,j.tm,j.df.of fun q e _ hu E=>?_,fun k b F=>?_,j.inj,j.lv,g1,j.gr.trans g2⟩
   ·have R:q≠l:=fun e'=>by rw[e',V]at E;cases E
    exact⟨by rw[World.putObj_heap_other R];exact e,hu,by rw[Ad _ _ R];exact E⟩
   obtain⟨e1,X,e3,U⟩:=j.box k b F;exact⟨by rw[World.putObj_heap_other (I k b F)];exact e1,X,e3,by rw[Ad _ _ (I k b F)];exact U⟩
  refine⟨_,run_beginRound Y hr,wpIn_mono (h2 _ _ _ _ r2) fun X a2 w2 Q=>?_⟩;cases X with
  |normal =>
   obtain⟨s2,u2,m2,ρ2,r3,h3,h4⟩:=Q;have Z:=r3.gd.pm l _ h3;refine⟨_,_,run_endRound none Z,?_⟩;have e5:({ Vg r with state:=if (none:Option Code).isNone then .ready else .done,pending:=none }:Loop)=r:=by
    cases r;subst hr;subst hp;rfl
   rw[e5];obtain⟨g3,g4⟩:=r3.gd.putO (o':=.loop r) h3 rfl;exact⟨_,_,_,rfl,g3,r3.gr.trans g4,rfl,h4⟩
  |_=>exact Q.elim
 |_=>exact hq.elim
section
variable {P:Program} [A6 P] {fn:Func} {Post:Ce} {st:List KI×S} {u m:PH}
def Azy (st:List KI×S):Option (Operand×Array Tmp×Code×Code):=match st.1 with
 |.code (.rangeFunc g ps x y)::_=>some (g,ps,x,y)
 |_=>none
def Ais (st:List KI×S):List KI×S:=match st.1 with
 |.code (.rangeFunc _ _ _ _)::k=>(k,st.2)
 |_=>st
theorem G.rangeF (g:Operand)(ps:Array Tmp)(x y:Code)(Q:Nat)(cap:zV)(a0:PH->PH->Prop)(h:Azy (adv P st)=some (g,ps,x,y))(I:(adv P st).2.ev g=.v (.func (.func Q) #[] cap.toArray))(hn:F2 (Ais (adv P st)).1=true)
 (hc:∀ args w,(callFunc Q args).run P w=.ok (.enter Q args) w)
 (R:∀ (l:Nat) (r:Loop),r.state=.ready->r.pending=none->r.params=ps->r.assign=x->r.body=y->r.tmps.size=(adv P st).2.n->(∀ d v,(adv P st).2.tm d=.v v->r.tmps[d]?=some v)->m l=none->u l=none ->
  Ag P Q (.func (.yield l) #[] #[]::cap) u (m.upd l (.loop r)) fun _ u' Z=>∃ r':Loop,r'.state≠.busy/\r'.pending=none/\Z l=some (.loop r')/\∃ V,PH.le V Z/\V l=none/\a0 u' V)
 (k:∀ u' Z,PH.le u u'->a0 u' Z->G P fn Post (Ais (adv P st)) u' Z):G P fn Post st u m:=by
 refine G.stp ?_;generalize adv P st=st' at h I hn R k;obtain⟨ks,s⟩:=st'
 match ks,h with
 |.code (.rangeFunc g' ps' x' y')::kk,h =>
  simp only[Azy,A1f,A2i]at h;obtain⟨rfl,rfl,rfl,rfl⟩:=h;simp only[Ais]at hn R k;refine⟨?_⟩;intro c ρ a w ad L;show (Code.rangeFunc g' ps' x' y').wp P (It P fn Post c kk) a w;refine (wpIn_wide (n:=0)).1 (wpIn_rangeFunc fun fid _=>?_);obtain⟨C,F⟩:∃ C:Loop,C={ state:=.ready,pending:=none,fn:=fid,tmps:=a.tmps,params:=ps',assign:=x',body:=y',defers:=w.heap.size }:=⟨_,rfl⟩;have W:=run_enterLoop_outer (P:=P) (w:=w) fid a.tmps ps' x' y';rw[<-F]at W;obtain⟨E,H⟩:∃ E,E=w.alloc (.deferred (some [])):=⟨_,rfl⟩;rw[<-H]at W;have a8:E.heap.size=w.heap.size+1:=by rw[H,B6]
  rw[<-a8]at W;have a1:E.heap[w.heap.size]?=some (.deferred (some [])):=by rw[H];exact Cn _ _
  have ag:u w.heap.size=none:=L.gd.pu.none (A08 _);have ae:m w.heap.size=none:=L.gd.pm.none (A08 _);have Y:Bv u m E:=by
   refine⟨fun g o I=>?_,fun g o I=>?_,L.gd.ap,fun g cs t fr j z I hj=>?_⟩
   ·rw[H,Aq _ _ (L.gd.pu.lt I)];exact L.gd.pu g o I
   ·rw[H,Aq _ _ (L.gd.pm.lt I)];exact L.gd.pm g o I
   by_cases e:g=w.heap.size
   ·subst e;rw[a1]at I;simp at I
   have K:=Aw I;rw[a8]at K;rw[H,Aq _ _ oV]at I;exact L.gd.cl g cs t fr j z I hj
  have a3:B0 c.u0 c.m0 c.w0 u m E:=L.gr.trans ⟨oV,fun g I _=>by rw[H];exact Aq _ _ I,fun _ _=>rfl,fun _ _ h=>h,by rw[H];exact⟨rfl,rfl⟩,fun _=>by rw[H];exact⟨rfl,A08 _⟩⟩;have T:Rel c s u m ρ { a with defers:=Xm w.heap.size::a.defers } E:=by
   refine⟨L.sz,L.tm,?_,fun k b hb=>?_,L.inj,L.lv,Y,a3⟩
   ·obtain⟨ds,d1,d2,a9,d3⟩:=L.df;refine⟨w.heap.size::ds,A4j.2 ⟨fun a6=>?_,d1⟩,by rw[A2u,<-d2];rfl,by rw[<-a9];rfl,fun q hq=>?_⟩
    ·obtain⟨e,_⟩:=d3 _ a6;exact absurd (Aw e) oV
    rcases A1g.1 hq with rfl|hq
    ·exact⟨a1,L.gr.sz,ag,ae⟩
    obtain⟨e1,e2,e3,e4⟩:=d3 q hq;exact⟨by rw[H,Aq _ _ (Aw e1)];exact e1,e2,e3,e4⟩
   obtain⟨⟨cs,f1,f2,f3⟩,f4⟩:=L.box k b hb;exact⟨⟨cs,by rw[H,Aq _ _ (Aw f1)];exact f1,f2,f3⟩,f4⟩
  obtain⟨g1,g2,g3,g4⟩:=Y.newO (o:=.loop C) rfl;have U:Rel c s u (m.upd E.heap.size (.loop C)) ρ { a with defers:=Xm w.heap.size::a.defers } (E.alloc (.loop C)):=by
   refine⟨T.sz,T.tm,T.df.of fun q e _ hu X=>?_,fun k b hb=>?_,T.inj,T.lv,g1,T.gr.trans g2⟩
   ·have K:=Aw e;exact⟨by rw[Aq _ _ K];exact e,hu,by rw[Ad _ _ oV];exact X⟩
   obtain⟨⟨cs,f1,f2,f3⟩,f4,f5,f6⟩:=T.box k b hb;have K:=Aw f1;exact⟨⟨cs,by rw[Aq _ _ K];exact f1,f2,f3⟩,f4,f5,by rw[Ad _ _ oV];exact f6⟩
  have ab:a.eval g'=.func (.func Q) #[] cap.toArray:=by rw[L.eval g' (by rw[I];simp),I];rfl
  have aa:=R E.heap.size C (by rw[F]) (by rw[F]) (by rw[F]) (by rw[F]) (by rw[F]) (by rw[F];exact L.sz) (fun d v hd=>by
   have:=L.tm d (by rw[hd];simp);rw[hd]at this;rw[F];exact this) g3 g4
  obtain⟨dd,a2⟩:∃ dd:Deferred,dd={ target:=.fn (.func Q) cap.toArray,args:=#[.func (.yield E.heap.size) #[] #[]] }:=⟨_,rfl⟩;have a7:(resolve a.eval (rangeCall g' E.heap.size) 0).run P (E.alloc (.loop C))=.ok dd (E.alloc (.loop C)):=by
   rw[a2];simp only[resolve,ab,Deferred.ofValue];simp[Act.eval]
  have a4:(invoke dd.target dd.args).run P (E.alloc (.loop C))=.ok (.enter Q (.func (.yield E.heap.size) #[] #[]::cap).toArray) (E.alloc (.loop C)):=by
   rw[a2];simp[invoke,hc]
  refine⟨E.heap.size,[Xm w.heap.size],E.alloc (.loop C),dd,E.alloc (.loop C),Q,(.func (.yield E.heap.size) #[] #[]::cap).toArray,E.alloc (.loop C),W,a7,fun _ _=>trivial,a4,(fun h=>by cases h),?_⟩;refine callsIn_wide.2 (Calls.mono (aa _ g1) fun e w3 he=>?_);obtain⟨v,u',Z,rfl,k1,k2,r',q1,q2,q3,V,q4,q5,q6⟩:=he;have ac:=k1.pm _ _ q3;refine⟨none,_,by rw[<-q2];exact run_endLoop ac q1,?_⟩;obtain⟨p1,p2⟩:=k1.putO (o':=.loop { r' with state:=.exhausted }) q3 rfl;have a5:PH.le V (Z.upd E.heap.size (.loop { r' with state:=.exhausted })):=fun g o I=>by
   by_cases e:g=E.heap.size
   ·grind
   rw[Ad _ _ e];exact q4 g o I
  have af:Rel c s u' (Z.upd E.heap.size (.loop { r' with state:=.exhausted })) ρ { a with defers:=Xm w.heap.size::a.defers } (w3.putObj E.heap.size (.loop { r' with state:=.exhausted })):=by
   have g5:=k2.trans p2;refine⟨U.sz,U.tm,U.df.of fun q e _ hu X=>⟨by rw[g5.old _ (Aw e) X];exact e,by rw[g5.us _ (Aw e)];exact hu,g5.ms _ (Aw e) X⟩,fun k b hb=>?_,U.inj,U.lv,p1,U.gr.trans g5⟩;obtain⟨e1,e2,e3,e4⟩:=U.box k b hb;have K:ρ k<(E.alloc (.loop C)).heap.size:=by obtain⟨cs,e,_⟩:=e1;exact Aw e
   refine⟨?_,e2,?_,?_⟩
   ·rw[g5.old _ K e4];exact e1
   ·rw[g5.us _ K];exact e3
   exact g5.ms _ K e4
  have hk:=(k u' V (k2.le g1.pu) q6).out;rw[Sym.ofNo hn]at hk;exact hk c ρ _ _ ad (af.less a5)
end
end
section
variable {b sz:Nat}{es:zV}{m m0:PH}{o:Obj}{t:TypeId}{v:Value}
def Af.base (h:Af m0 m v t sz es)(J:m0 b≠none):Af (m0.upd b o) (m.upd b o) v t sz es:=by
 obtain⟨E,h⟩:=h;rcases h with ⟨u,C,rfl⟩|⟨g,cap,rest,u,rfl,C,F,H,I⟩
 ·exact⟨E,.inl ⟨u,C,rfl⟩⟩
 have j:g≠b:=fun e=>by subst e;exact J u
 exact⟨E,.inr ⟨g,cap,rest,by rw[Ad _ _ j];exact u,Iq _ _ _ j,C,F,H,I⟩⟩
def Af.see (h:Af m0 m v t sz es)(e:m0 b=some o):m b=some o:=h.le b o e
end
section
variable {l:Nat}{m:PH}{o:Obj}
def Alu {l b:Nat}(h:b≠l):(m.upd b o).del l=(m.del l).upd b o:=by
 funext k
 by_cases e:k=l
 ·subst e;rw[Ad _ _ (fun j=>h j.symm)];simp[PH.del]
 by_cases j:k=b
 ·subst j;rw[Ab];simp[PH.del,e,Ab]
 rw[Ad _ _ j];simp[PH.del,e,Ad _ _ j]
def Rk (h:m l=none):(m.upd l o).del l=m:=by
 funext k
 by_cases e:k=l
 ·subst e;simp[PH.del,h]
 simp[PH.del,e,Ad _ _ e]
def Ap6 (m:PH)(l:Nat):PH.le (m.del l) m:=fun g o h=>by
 unfold PH.del at h;split at h
 ·cases h
 exact h
def Axu (m:PH)(l:Nat):m.del l l=none:=by unfold PH.del;simp
def Af.del {m0 m:PH}{v:Value}{t:TypeId}{sz:Nat}{es:zV}{l:Nat}(h:Af m0 m v t sz es)(J:m0 l≠none):Af (m0.del l) (m.del l) v t sz es:=by
 obtain⟨E,h⟩:=h;rcases h with ⟨u,C,rfl⟩|⟨g,cap,rest,u,rfl,C,F,H,I⟩
 ·exact⟨E,.inl ⟨u,C,rfl⟩⟩
 have j:g≠l:=fun e=>by subst e;exact J u
 exact⟨E,.inr ⟨g,cap,rest,by unfold PH.del;rw[if_neg j];exact u,Alu j,C,F,H,I⟩⟩
def Y4 (t et:TypeId)(sz b:Nat)(mr:PH)(es:zV)(m:PH):Prop:=∃ a c,Af (mr.upd b (.cells #[.slice a es.length c] t (0,0))) m (.slice a es.length c) et sz es
def Y4.see {t et:TypeId}{sz b l:Nat}{j m:PH}{es:zV}{o:Obj}(h:Y4 t et sz b j es m)(u:b≠l)(C:j l=some o):m l=some o:=by
 obtain⟨a,c,h⟩:=h;exact h.see (by rw[Ad _ _ (fun e=>u e.symm)];exact C)
def Y4.base {t et:TypeId}{sz b l:Nat}{j m:PH}{es:zV}{o:Obj}(h:Y4 t et sz b j es m)(u:b≠l)(C:j l≠none):Y4 t et sz b (j.upd l o) es (m.upd l o):=by
 obtain⟨a,c,h⟩:=h;refine⟨a,c,?_⟩;rw[Iq _ _ _ (fun e=>u e.symm)];exact h.base (by rw[Ad _ _ (fun e=>u e.symm)];exact C)
end
section
variable {k:Nat}{v:Value}
def Af.fresh {m0 m:PH}{t:TypeId}{sz:Nat}{es:zV}{b:Nat}{o:Obj}(h:Af m0 m v t sz es)(F:m b=none):Af (m0.upd b o) (m.upd b o) v t sz es:=by
 obtain⟨H,h⟩:=h;rcases h with ⟨C,E,rfl⟩|⟨g,cap,rest,C,rfl,E,I,J,K⟩
 ·exact⟨H,.inl ⟨C,E,rfl⟩⟩
 have j:g≠b:=fun e=>by subst e;rw[Ab]at F;cases F
 exact⟨H,.inr ⟨g,cap,rest,by rw[Ad _ _ j];exact C,Iq _ _ _ j,E,I,J,K⟩⟩
section
variable [Cl] [Co] [Pu] {P:Program} [A6 P] {fn:Func} {Post:Ce} {st:List KI×S} {u m:PH}
def G.appendL (e:TypeId)(sz C:Nat)(z:Value)(m0:PH)(es xs:zV)(v:Value)(a:zP)(n c:Nat)(h:Aj P (adv P st)=.app (some (e,sz,C,z)) true [v,.slice a n c])(U:z.cells.toList.all Ax=true)(J:z.cells.size=sz)(H:0<sz)
 (E:Af m0 m v e sz es) (I:Ac u (.slice a n c) sz xs) (T:A9 sz xs) (R:(es.length+xs.length)*C<=140737488355328) (F:es.length+xs.length<=9223372036854775807)
 (k:∀ L K,Af m0 K L e sz (es++xs)->G P fn Post (nx (adv P st) L) u K):G P fn Post st u m:=by
 have t:n=xs.length:=by obtain⟨_,_,Q,_⟩:=I;cases Q;rfl
 cases xs with
 |nil =>
  simp only[A30]at t;subst t;obtain⟨a1,c1,rfl⟩:=E.shape;refine G.append0 e sz C z a1 a es.length c1 c h E.cap ?_;exact k _ _ (by rw[A1x];exact E)
 |cons x xs =>
  obtain⟨b,off,rfl,_⟩:=Ac.at' I (j:=0) (e:=x) rfl;subst t;exact G.append e sz C z m0 es (x::xs) v b off _ c h U J H E I.els T rfl mV R F k
end
def Aue {u:PH}{L:List Par}{p:Par}(h:Ac u v 2 (L.map Ap))(Q:L[k]?=some p)(T:∀ j,j<k->L[j]?≠some p)(W:L.length<=1000000) :
 zF 209 [v,Ap p] u fun r _=>r=zI k:=by
 obtain⟨a,c,rfl⟩:=h.opn;rw[A03]at h⊢;obtain⟨R,F⟩:=A05.1 Q;refine Fn0.o func209<|G.l (ι:=Nat) (fun i=>[(0,sV a L.length c),(3,.p 0 0),(7,iV L.length),(8,iV i)]) (fun _=>[(0,⟨118,[iV p.1,tV p.2]⟩)])
  (fun i Z U=>i<=k/\U=PH.mt) (fun i=>k+1-i) 0 ⟨oV,rfl⟩ ?_
 rintro J i K u1 X H ⟨hi,rfl⟩;refine G.lT i L.length ?_;have t:L[i]?=some L[i]:=A01 oV;obtain⟨V,Y,rfl,I⟩:=Ac.at' (h.mono H) (j:=i) (e:=Ap L[i]) (by simp[t]);refine G.n L.length c I ?_;by_cases E:p=L[i]
 ·have C:i=k:=by
   rcases A2e i k with e|e
   ·exact absurd (by rw[t,<-E]) (T i e)
   omega
  exact G.eqAgg 118 #[zI p.1,zS p.2] #[zI L[i].1,zS L[i].2] true kV kV kV (fun w=>by rw[<-decide_eq_true E];exact Bq.eq p L[i] w)<|G.r (zI i) ⟨rfl,by rw[C]⟩
 have C:i≠k:=fun e=>by subst e;exact E F.symm
 exact G.eqAgg 118 #[zI p.1,zS p.2] #[zI L[i].1,zS L[i].2] false kV kV kV (fun w=>by rw[<-decide_eq_false E];exact Bq.eq p L[i] w)<|G.i i<|G.b (K (i+1) _ _ _ cV H ⟨oV,rfl⟩ oV)
def F5 (P:List Par)(L:List (Par×Rat)):zW:=[49]::P.map fun p=>Ae (Fo p L)
def Ae2 (P:List Par)(L:List (Par×Rat)):(F5 P L).length=P.length+1:=by unfold F5;simp
def Ar9 (P:List Par):F5 P [] = [49]::List.replicate P.length [48]:=by
 unfold F5
 congr 1
 have:(fun p:Par=>Ae (Fo p []))=fun _=>[48]:=by funext p;unfold Fo;exact Fz
 rw[this,List.map_const']
def Zb {κ:Type}[DecidableEq κ]{a:κ}{x:κ×Rat}:∀ {L:List (κ×Rat)},x.1∉L.map (·.1)->Fo a (L++[x])=if a=x.1 then x.2 else Fo a L
 |[],_=>by obtain⟨b,q⟩:=x;simp[Fo]
 |(b,q)::L,h=>by
  rw[A2u,A1g,not_or]at h;rw[A4x];unfold Fo;by_cases e:a=b
  ·rw[if_pos e,if_neg (fun j=>h.1 (by rw[<-j,e]))];simp[e]
  rw[if_neg e,Zb h.2];simp[e]
def Yu {κ:Type}{l:List κ}(h:l.Nodup){i j:Nat}{x:κ}(E:l[i]?=some x)(F:l[j]?=some x):i=j:=by
 obtain⟨a1,a2⟩:=A05.1 E;obtain⟨t,C⟩:=A05.1 F;rcases A5u i j with e|e|e
 ·exact absurd (a2.trans C.symm) (A3n.1 h i j a1 t e)
 ·exact e
 exact absurd (C.trans a2.symm) (A3n.1 h j i t a1 e)
def Amm {P:List Par}{L:List (Par×Rat)}{x:Par×Rat}(C:P[k]?=some x.1)(H:P.Nodup)(I:x.1∉L.map (·.1)):(F5 P L).set (k+1) (Ae x.2)=F5 P (L++[x]):=by
 unfold F5;rw[A2j]
 congr 1
 obtain⟨F,h⟩:=A05.1 C;refine A5l mV fun j t J=>?_;rw[List.getElem_set];simp only[A3v];rw[Zb I];by_cases e:k=j
 ·subst e;rw[if_pos rfl,if_pos h]
 rw[if_neg e,if_neg];intro E;simp at t;exact e (Yu H C (by rw[A01 (by simpa using t),E]))
def Anh {u:PH}{v pv tv:Value}{T:List (List UInt8×Nat)}{R:List Br}{F:List Al}{lab:Int}{ss:List (List UInt8)}{Q:List Par}(h:Mv u v tv T R F lab ss)(hQ:Ac u pv 2 (Q.map Ap))(hs:Hb Bk Q)(b9:∀ x∈Dx F ss F.length,x.1∈Q)(hl:Q.length<=100000) :
 Fn0 prog 140 [v,pv,tv] u fun r X=>∃ lv,r=.tuple #[lv,.int .i64 0]/\Ac X lv 1 ((F5 Q (Dx F ss F.length)).map nmV):=by
 have ap:=Lm h;have ag:=fun (X:PH) (l:PH.le u X)=>Aql (h.mono l);have ak:=h;have bu:=h.ok.f2;obtain⟨⟨xa,xc,xb,xd,xe,xf,rfl,bs,br,bq⟩,ok,hS,hT⟩:=h;obtain⟨ya,yc,rfl⟩:=hS.opn;obtain⟨pa,pc,rfl⟩:=hQ.opn;rw[A03]at hS ap ag ak hQ⊢;rw[A03]at⊢;have aj:=hs.nodup Et;refine Fn0.o func140<|G.c call89 ap ?_;rintro v1 u1 l1 rfl;refine G.nF 0 0<|G.l (ι:=Nat) (fun i=>[(2,sV ya ss.length yc),(3,.p 0 0),(4,.p 1 0),(6,.p 2 0),(7,.p 3 0),(9,iV i)])
  (fun _=>[(0,⟨30,[sV xa T.length xc,sV xb R.length xd,sV xe F.length xf,iV lab]⟩),(1,⟨43,[sV pa Q.length pc]⟩),(2,⟨46,[sV none 0 0]⟩),(3,⟨39,[iV 0]⟩)])
  (fun i X C=>1<=i/\C=PH.mt) (fun i=>Q.length-i) 1 ⟨oV,rfl⟩ ?_
 rintro J i H u2 m2 l2 ⟨hi,rfl⟩;by_cases a4:i<Q.length
 ·refine G.lT i Q.length ?_;have ad:=hQ.mono (l1.trans l2);have b0:Q[i]?=some Q[i]:=A01 a4;have b3:Q[i-1]?=some (Q[i-1]'oV):=A01 oV;have b5:Bk (Q[i-1]'oV) Q[i]<0:=A3n.1 hs (i-1) i oV a4 oV;obtain⟨ba,oa,e0,ea⟩:=Ac.at' ad (j:=i) (e:=Ap Q[i]) (by simp[b0]);obtain⟨bo,bz,a9,eb⟩:=Ac.at' ad (j:=i-1) (e:=Ap (Q[i-1]'oV)) (by simp[b3]);rw[e0]at a9;cases a9;subst e0;refine G.s i 1 (i-1:Nat)<|G.a ba oa Q.length pc (i-1) 2 oV<|G.lU (some 2) ba (oa+(i-1)*2) (Ap (Q[i-1]'oV)) eb<|G.a ba oa Q.length pc i 2 a4<|G.lU (some 2) ba (oa+i*2) (Ap Q[i]) ea<|G.c call127 (Re _ _ true (decide_eq_true b5)) ?_;rintro v3 u3 l3 rfl;exact G.i i<|G.b (H (i+1) _ _ _ cV (l2.trans l3) ⟨oV,rfl⟩ oV)
 refine G.lF i Q.length ?_;clear H;refine G.pub 1 43 [.slice pa Q.length pc] kV kV ?_;intro U bl bm;refine G.buildM 34 1 16 (.string (mkS [])) [.string (mkS [49])] kV (Gc [[49]]) rfl oV mV mV ?_;intro g3 m3 aa;refine G.B 34 1 16 (.string (mkS [])) [.string (mkS [48])] (Gc [[48]]) ?_;intro g4 u4 l4 e4;have az:Ac u4 (.slice (some ⟨g4,0,none⟩) 1 1) 1 [.string (mkS [48])]:=⟨_,1,rfl,A08 _,fun j e hj=>⟨g4,0,rfl,e4 j e hj⟩⟩;refine G.lM none U 0 (.slice pa Q.length pc) (My (xs:=[.slice pa Q.length pc]) (aa.see (Ab _ _ _)) rfl)<|G.c call207 (Ao2 (n:=Q.length) az (Gc [[48]]) oV) ?_;intro v5 u5 l5 k5;obtain⟨a5,c5,rfl⟩:=Ac.opn k5;have b6:(F5 Q []).map nmV = [Value.string (mkS [49])]++List.replicate Q.length (Value.string (mkS [48])):=by
  rw[Ar9,A2u,A8z];rfl
 refine G.appendL 34 1 16 (.string (mkS [])) _ [.string (mkS [49])] (List.replicate Q.length (.string (mkS [48]))) _ a5 _ c5 kV rfl rfl oV aa k5 ((Gc [[48]]).replicate _) gV gV ?_;intro v6 m6 V;rw[<-b6]at V;obtain⟨a6,c6,rfl⟩:=V.shape;refine G.pub 9006 46 [.slice a6 ((F5 Q []).map nmV).length c6] kV kV ?_;intro b bt a2;have af:m6 U=some (.cells [Value.slice pa Q.length pc].toArray 43 (0,0)):=V.see (Ab _ _ _);have a3:b≠U:=fun e=>by subst e;rw[af]at a2;cases a2
 have aq:=V.fresh (o:=.cells [Value.slice a6 ((F5 Q []).map nmV).length c6].toArray 46 (0,0)) a2;have a8:PH.le u u5:=(((l1.trans l2).trans l4).trans l5);refine G.c call208 (ag u5 a8) ?_;rintro v8 u8 l8 ⟨b1,b2,rfl,e1,e2⟩;obtain⟨E,W⟩:∃ E,E=Pj U (.cells [Value.slice pa Q.length pc].toArray 43 (0,0)):=⟨_,rfl⟩;have ar:Y4 46 34 1 b E ((F5 Q []).map nmV) (m6.upd b (.cells [Value.slice a6 ((F5 Q []).map nmV).length c6].toArray 46 (0,0))):=by
  rw[W];exact⟨a6,c6,aq⟩
 have be:E U=some (.cells [Value.slice pa Q.length pc].toArray 43 (0,0)):=by rw[W];exact Ck _ _
 have b7:∀ {es:List Value} {C:PH},Y4 46 34 1 b E es C->PH.le E C:=fun h=>(by
  obtain⟨a,c,h⟩:=h;exact fun g o hg=>h.see (by rw[Ad _ _ (fun e=>by rw[W]at hg;rw[e,Mz _ a3]at hg;cases hg)];exact hg))
 refine G.rangeF (rfG Tryz.f140) (A0v Tryz.f140) (rfX Tryz.f140) (rfY Tryz.f140) 251 [.pointer (some ⟨b1,0,none⟩),.pointer (some ⟨b2,0,none⟩)] (fun X C=>Y4 46 34 1 b E ((F5 Q (Dx F ss F.length)).map nmV) C) kV kV kV call251 ?_ ?_
 ·intro l r r1 r2 r3 r4 r5 r6 r7 K ah;have t:b≠l:=fun e=>by subst e;rw[Ab]at K;cases K
  have al:U≠l:=fun e=>by subst e;rw[Ad _ _ (fun e=>a3 e.symm),af]at K;cases K
  have ai:E l=none:=by rw[W];exact Mz _ (fun e=>al e.symm)
  have am:r.params = #[46,47]:=r3.trans kV;have hn:r.tmps.size=59:=r6.trans kV;have bg:r.tmps[4]?=some (.pointer (some ⟨U,0,none⟩)):=r7 4 _ kV;have ao:r.tmps[10]?=some (.pointer (some ⟨b,0,none⟩)):=r7 10 _ kV;have a7:∀ {es:List Value} {C:PH},Y4 46 34 1 b (E.upd l (.loop r)) es C->C l=some (.loop r):=fun h=>h.see t (Ab _ _ _);refine Ag.weak (Arp (ak.mono (a8.trans l8)) e1 e2 (fun L X C=>PH.le u8 X/\Y4 46 34 1 b (E.upd l (.loop r)) ((F5 Q L).map nmV) C) (fun _ _ _ _ hl h=>⟨h.1.trans hl,h.2⟩) (fun i x X C hi hl H hx bw=>?_) ?_) ?_
  ·obtain⟨ac,H⟩:=H;have bh:=b9 x hx;obtain⟨k,hk,bd⟩:=A2y bh;have I:Q[k]?=some x.1:=by rw[A01 hk,bd]
   have bi:x.1∉(Dx F ss i).map (·.1):=fun hm=>by
    obtain⟨y,hy,bj⟩:=A1b.1 hm;obtain⟨j,f,hj,_,hv⟩:=F9.1 hy;have:=Ow hv;rw[bj]at this;omega
   refine Amn (n:=59) (T:=[(4,.pointer (some ⟨U,0,none⟩)),(10,.pointer (some ⟨b,0,none⟩)),(46,Ap x.1),(47,.string (mkS (Ae x.2)))]) (a7 H) r1 r2 (by rw[am];rfl) hn (fun y hy=>?_) ?_
   ·rw[am,Aje];simp only[A1g,A11,or_false]at hy;rcases hy with rfl|rfl|rfl|rfl
    ·rw[A2m mV,A2m mV];exact bg
    ·rw[A2m mV,A2m mV];exact ao
    ·rw[A2m mV];simp[hn]
    simp[hn]
   rw[r4,r5];refine RW.seq' kV (RW.reg' Tryz.f140 kV fun Post J' au=>?_);refine G.b (au _ _ _ (RW.reg' Tryz.f140 kV fun Post J2 av=>?_));have a1:=H.base (o:=.loop (Vg r)) t (by rw[Ab];simp);rw[Dp]at a1;have bf:(C.upd l (.loop (Vg r))) U=some (.cells [Value.slice pa Q.length pc].toArray 43 (0,0)):=a1.see a3.symm.symm (by rw[Ad _ _ al];exact be);obtain⟨a,c,Y⟩:=a1;have b4:∀ {n c':Nat} {a':Option Addr},((E.upd l (.loop (Vg r))).upd b (.cells #[.slice a' n c'] 46 (0,0))) b=some (.cells [Value.slice a' n c'].toArray 46 (0,0)):=Ab _ _ _;refine G.b (av _ _ _ ⟨a7 H,RW.block' kV (RW.seq' kV (RW.reg' Tryz.f140 kV fun Post J3 aw=>?_))⟩);refine G.lM none U 0 (.slice pa Q.length pc) (My (xs:=[.slice pa Q.length pc]) bf rfl)<|G.c call209 (Aue (hQ.mono ((a8.trans l8).trans ac)) I (fun j hj bb=>?_) oV) ?_
   ·have:=Yu aj bb I;omega
   rintro v9 u9 l9 rfl;refine G.b (aw _ _ _ (RW.seq' kV (RW.seq' kV (RW.reg' Tryz.f140 kV fun Post J4 ax=>?_))));refine G.lF k 0<|G.b (ax _ _ _ (RW.condF' kV kV (RW.skip' kV ?_)));refine RW.reg' Tryz.f140 kV fun Post J5 ay=>?_;refine G.lM none b 0 (.slice a ((F5 Q (Dx F ss i)).map nmV).length c) (My (xs:=[.slice a ((F5 Q (Dx F ss i)).map nmV).length c]) (Y.see b4) rfl) ?_;obtain⟨g,c',b8⟩:=Y.ptr (by unfold F5;simp);cases b8;refine G.i k ?_;have bn:((F5 Q (Dx F ss i)).map nmV).length=Q.length+1:=by rw[A03,Ae2]
   refine G.a g 0 ((F5 Q (Dx F ss i)).map nmV).length c (k+1) 1 oV<|G.storeA 1 _ ((F5 Q (Dx F ss i)).map nmV) g ((F5 Q (Dx F ss i)).map nmV).length c (k+1) (.string (mkS (Ae x.2))) kV Y oV rfl rfl ?_;intro bk Z;have an:((F5 Q (Dx F ss i)).map nmV).set (k+1) (.string (mkS (Ae x.2)))=(F5 Q (Dx F ss i++[x])).map nmV:=by
    rw[<-Amm I aj bi,A2g];rfl
   have ah:((F5 Q (Dx F ss i)).map nmV).length=((F5 Q (Dx F ss i++[x])).map nmV).length:=by simp[Ae2]
   rw[an,ah]at Z;have hB:Y4 46 34 1 b (E.upd l (.loop (Vg r))) ((F5 Q (Dx F ss i++[x])).map nmV) bk:=⟨_,_,Z⟩;refine G.b (ay _ _ _ ⟨hB.see t (Ab _ _ _),ac.trans l9,?_⟩);have ab:=hB.base (o:=.loop r) t (by rw[Ab];simp);rw[Dp]at ab;exact ab
  ·refine⟨PH.le_refl _,?_⟩;obtain⟨a,c,h⟩:=ar;refine⟨a,c,?_⟩;rw[Iq _ _ _ (fun e=>t e.symm)];exact h.fresh K
  rintro v' X C ⟨_,H⟩;refine⟨r,by rw[r1];simp,r2,a7 H,C.del l,Ap6 _ _,Axu _ _,?_⟩;obtain⟨a,c,Y⟩:=H;have:=Y.del (l:=l) (by rw[Ad _ _ (fun e=>t e.symm),Ab];simp);rw[Alu t,Rk ai]at this;exact⟨a,c,this⟩
 rintro u9 m9 l9 ⟨a,c,Y⟩;refine G.giveP (ma:=m9) (sm:=PH.mt) kV (by funext g;unfold PH.or;cases m9 g<;>rfl) (fun g=>.inr rfl) (fun g=>.inl rfl) ?_
 intro c0 bx a0;have ae:m9 b=some (.cells [Value.slice a ((F5 Q (Dx F ss F.length)).map nmV).length c].toArray 46 (0,0)):=Y.see (Ab _ _ _);exact G.lU none b 0 (.slice a ((F5 Q (Dx F ss F.length)).map nmV).length c) ((My (xs:=[.slice a ((F5 Q (Dx F ss F.length)).map nmV).length c]) ae rfl).mono a0)<|G.r (.tuple #[.slice a ((F5 Q (Dx F ss F.length)).map nmV).length c,.int .i64 0]) ⟨rfl,_,rfl,Y.list a0⟩
end
section
variable {N:Nat}{k:Par×Par}{q:Rat}
def Awv (T:TypeId):Op->Bool
 |.indexAddr t _ _=>Nat.beq t T
 |_=>false
section
variable {P:Program} [A6 P] {fn:Func} {Post:Ce} {st:List KI×S} {u m:PH}
def G.addrA (t e:TypeId)(n b off j sz:Nat)(h:Aj P (adv P st)=.addr none (.pointer (some ⟨b,off,none⟩)) (zI j))(T:Yr (Awv t) (adv P st)=true)(W:P.underlying t=some (.array n e))(U:szB P e=some sz)(hj:j<n)
 (k:G P fn Post (nx (adv P st) (.pointer (some ⟨b,off+j*sz,none⟩))) u m):G P fn Post st u m:=by
 refine G.askQ (Awv t) h T mV (fun R o C H w _=>?_) k;obtain⟨t',X,I,E,L,Q,_⟩:=Z1 C;rw[E]at H;have V:=A1y H;subst V;obtain⟨K,Y,J,pos,after,F⟩:=o;simp only at E;subst E;simp[execOp,Instr.indexAt,Instr.sureAddr,asIntOf,L,Q,run_underlying W,Bf U,Ed];intro Z;omega
end
def Aly {m:PH}{b:Nat}{t:TypeId}(h:m b=some (.cells [Value.int .i64 k.1.1,zS k.1.2,zI k.2.1,zS k.2.2].toArray t (0,0))):ElP m b (0+0*2) (Ap k.1)/\ElP m b (0+1*2) (Ap k.2):=by
 have h0:ElP m b 0 (.agg #[zI k.1.1,zS k.1.2,zI k.2.1,zS k.2.2]):=My h rfl;refine⟨h0.sub (k:=0) fun i y e=>?_,h0.sub (k:=2) fun i y e=>?_⟩
 ·match i,e with
  |0,e=>simpa[Ap,Value.cells] using e
  |1,e=>simpa[Ap,Value.cells] using e
 match i,e with
 |0,e=>simpa[Ap,Value.cells] using e
 |1,e=>simpa[Ap,Value.cells] using e
def SB.ten (h:SB q):Sz q 10000000000:=h.sz.mono oV
def KO.fix (h:KO k):Ay k.1 k.2=k:=by unfold Ay;rw[if_neg h]
def D7.at {κ:Type}[DecidableEq κ]{enc:κ->Value}{K:κ->Prop}{u:PH}{o:Obj}{f:κ->Rat}(h:D7 enc K u o f N) :
 ∃ l:List (κ×Value),Hu enc o l/\(∀ p∈l,QP u p.2 (f p.1)/\K p.1)/\(∀ k,k∉l.map (·.1)->f k=0)/\l.length<=N:=by
 obtain⟨l,j,e,t,C⟩:=h;exact⟨l,j,fun p hp=>⟨(e p hp).1,(e p hp).2.1⟩,t,C⟩
def Ar1 {u mf:PH}{F H:CF}{N M:Nat}{vf vg vk:Value}(hf:Kk mf u vf F N)(hg:R9 u vg H M)(hk:QP u vk q)(hq:SB q)(sF:CFS F)(sH:CFS H)(sK:CFS (H.scale q))(sR:CFS (F.add (H.scale q))) :
 Ag prog 48 [vf,vg,vk] u mf fun v u' m'=>Kk m' u' v (F.add (H.scale q)) (N+M):=by
 obtain⟨b,a,n,c,b',a',n',c',g1,g2,o1,o2,rfl,hF,ab,rfl,h1,h2⟩:=hf;obtain⟨wb,wa,wn,wc,b0,az,b5,b3,w1,w2,p1,p2,rfl,hH,e1,e2,k1,k2⟩:=hg;obtain⟨kb,ka,kn,kc,av,ax,aw,rfl,_⟩:=hk.opn;obtain⟨l1,⟨es1,C,rfl,ae,a3⟩,ba,be,bu⟩:=k1.at;obtain⟨l2,⟨Y,h,rfl,af,a5⟩,bb,bf,bw⟩:=k2.at;have ar:(l1.map (·.1)).Nodup:=Hu.nodup (enc:=Ap) ⟨es1,C,rfl,ae,a3⟩;have au:(l2.map (·.1)).Nodup:=Hu.nodup (enc:=prV) ⟨Y,h,rfl,af,a5⟩;refine Ag.o func48<|G.c call28 (Gh hH hk (SB.ten sH.c) hq.ten) ?_;intro v1 u1 ay r1;obtain⟨b1,a1,x1,c1,bp,bz,br,rfl,_⟩:=r1.opn;refine G.c call26 (Pd (hF.mono ay) r1 (SB.ten sF.c) (SB.ten sK.c)) ?_;intro v2 u2 bg r2;obtain⟨b2,a2,x2,c2,W,a8,X,rfl,_⟩:=r2.opn;have a6:=ay.trans bg;obtain⟨m2,bd,ai,aj⟩:∃ m2:PH,m2=(PH.mt.upd g1 o1).upd g2 o2/\m2 g1=some o1/\m2 g2=some o2:=⟨_,rfl,by rw[Ad _ _ ab,Ab],Ab _ _ _⟩;rw[<-bd];refine G.mapRange w1 es1 C 118 69 kV (.inl (a6 _ _ e1)) ?_;intro it ao bt;have i1:g1≠it:=fun e=>by subst e;rw[ao]at ai;cases ai
 have i2:g2≠it:=fun e=>by subst e;rw[ao]at aj;cases aj
 refine G.l (ι:=List MapEntry×List (Par×Value)) (fun _=>[(3,.p 0 0),(4,.p 1 0),(5,.p 2 0),(6,.p 3 0),(21,.v (.pointer (zA it)))])
  (fun _=>[(0,⟨108,[bV b2,sV a2 x2 c2,bF,sV W a8 X,.v (.map (some g1)),.v (.map (some g2))]⟩),(1,⟨108,[bV wb,sV wa wn wc,bV b0,sV az b5 b3,.v (.map (some w1)),.v (.map (some w2))]⟩),(2,⟨69,[bV kb,sV ka kn kc,bF,sV av ax aw]⟩),(3,⟨108,[bF,sN,bF,sN,.v (.map none),.v (.map none)]⟩)])
  (fun i u' m'=>Gj Ap es1 l1 i.1 i.2/\m' it=some (.mapIter (some w1) C (Ar i.1) C)/\m' g2=some o2/\∃ K,m' g1=some K/\D7 Ap KT u' K (Ek F.s H.s q (i.2.map (·.1))) (N+i.2.length))
  (fun i=>l1.length-i.2.length) ([],[])
  ⟨Gj.nil _ _,Ab _ _ _,by rw[Ad _ _ i2];exact aj,o1,by rw[Ad _ _ i1];exact ai,by
   have:Ek F.s H.s q (([]:List (Par×Value)).map (·.1))=F.s:=by funext k;simp[Ek]
   dsimp only;rw[this];exact h1.mono a6⟩ ?_
 rintro J ⟨D,L⟩ hJ u3 m3 ak ⟨hS,ap,E,K,a0,hR⟩;simp only at hS ap E a0 hR hJ;have j:=a6.trans ak;refine G.mapNextL Bq.inj it w1 es1 C l1 D L kV kV ap (.inl (j _ _ e1)) a3 ae ar hS ?done1 ?next1
 case next1 =>
  rintro⟨k,xv⟩ e hp hkn he hek hev hS';simp only at hkn hek hev;have hx:=(ba _ hp).1;simp only at hx;obtain⟨yb,ya,yn,yc,bk,bm,bl,rfl,_⟩:=hx.opn;refine G.mapEntry it w1 es1 C D e kV (Ab _ _ _) (.inl (j _ _ e1)) a3 he ?_;rw[hek,hev];refine G.c call28 (Gh (hx.mono j) (hk.mono j) (SB.ten (sH.s k)) hq.ten) ?_;intro v4 u4 a7 r4;obtain⟨b4,a4,x4,c4,b6,bj,b7,rfl,_⟩:=r4.opn;refine G.callG _ _ kV kV call109 (g:=g1) (o:=K) (by rw[Ad _ _ i1];exact a0)
   (Oi (g2:=some g2) (y1:=b2) (y2:=(a2,x2,c2)) (y3:=false) (y4:=(W,a8,X)) (hR.mono a7) r4 (sK.s k) (O3 sF.s sR.s k) (by
    have:Ek F.s H.s q (L.map (·.1)) k=F.s k:=by unfold Ek;rw[if_neg hkn]
    rw[this,A46];exact sR.s k)) ?_
  intro v5 u5 o5 al r5;rw[Jo _ _ _ hkn]at r5;refine G.b (hJ (D++[e],L++[(k,_)]) _ _ _ cV ((ak.trans a7).trans al)
   ⟨hS',by rw[Ad _ _ (Ne.symm i1),Ab],by rw[Ad _ _ (Ne.symm ab),Ad _ _ i2];exact E,o5,Ab _ _ _,by
    simpa[A3p] using r5⟩ (by have:=hS'.len;simp at this;dsimp only;simp;omega))
 case done1 =>
 intro an;have b8:Ek F.s H.s q (L.map (·.1))=(F.add (H.scale q)).s:=Me _ _ _ fun k hk=>be k fun hm=>hk (by
  obtain⟨p,hp,rfl⟩:=A1b.1 hm;exact A1b.2 ⟨p,an p hp,rfl⟩)
 rw[b8]at hR;have bs:=hS.len;refine G.mapRange w2 Y h 175 69 kV (.inl (j _ _ e2)) ?_;intro I ac bo;have j1:g1≠I:=fun e=>by subst e;rw[ac]at a0;cases a0
 have j2:g2≠I:=fun e=>by subst e;rw[ac]at E;cases E
 refine G.l (ι:=List MapEntry×List ((Par×Par)×Value)) (fun _=>[(3,.p 0 0),(4,.p 1 0),(5,.p 2 0),(6,.p 3 0),(35,.v (.pointer (zA I)))])
  (fun _=>[(0,⟨108,[bV b2,sV a2 x2 c2,bF,sV W a8 X,.v (.map (some g1)),.v (.map (some g2))]⟩),(1,⟨108,[bV wb,sV wa wn wc,bV b0,sV az b5 b3,.v (.map (some w1)),.v (.map (some w2))]⟩),(2,⟨69,[bV kb,sV ka kn kc,bF,sV av ax aw]⟩),(3,⟨108,[bF,sN,bF,sN,.v (.map none),.v (.map none)]⟩)])
  (fun i u' m'=>Gj prV Y l2 i.1 i.2/\m' I=some (.mapIter (some w2) h (Ar i.1) h)/\m' g1=some K/\∃ V,m' g2=some V/\D7 prV KO u' V (Ek F.t H.t q (i.2.map (·.1))) (N+i.2.length))
  (fun i=>l2.length-i.2.length) ([],[])
  ⟨Gj.nil _ _,Ab _ _ _,by rw[Ad _ _ j1];exact a0,o2,by rw[Ad _ _ j2];exact E,by
   have:Ek F.t H.t q (([]:List ((Par×Par)×Value)).map (·.1))=F.t:=by funext k;simp[Ek]
   dsimp only;rw[this];exact h2.mono j⟩ ?_
 rintro J2 ⟨D2,L2⟩ am u6 m6 aa ⟨ag,ad,R,V,Q,a9⟩;simp only at ag ad R Q a9 am;have T:=j.trans aa;refine G.mapNextL I1.inj I w2 Y h l2 D2 L2 kV kV ad (.inl (T _ _ e2)) a5 af au ag ?done2 ?next2
 case next2 =>
  rintro⟨k,xv⟩ e hp hkn he hek hev hS';simp only at hkn hek hev;obtain⟨hx,aq⟩:=bb _ hp;simp only at hx aq;have Z:=aq.fix;obtain⟨yb,ya,yn,yc,bk,bm,bl,rfl,_⟩:=hx.opn;refine G.mapEntry I w2 Y h D2 e kV (Ab _ _ _) (.inl (T _ _ e2)) a5 he ?_;rw[hek,hev];refine G.pub 8003 175 [zI k.1.1,zS k.1.2,zI k.2.1,zS k.2.2] kV kV ?_;intro bq bx U;have q1:g1≠bq:=fun e=>by subst e;rw[Ad _ _ j1,R]at U;cases U
  have q2:g2≠bq:=fun e=>by subst e;rw[Ad _ _ j2,Q]at U;cases U
  have q3:I≠bq:=fun e=>by subst e;rw[Ab]at U;cases U
  obtain⟨bh,bi⟩:=Aly (m:=(m6.upd I (.mapIter (some w2) h (Ar (D2++[e])) h)).upd bq (.cells [Value.int .i64 k.1.1,zS k.1.2,zI k.2.1,zS k.2.2].toArray 175 (0,0))) (Ab _ _ _);refine G.addrA 175 118 2 bq 0 0 2 kV kV kV kV oV<|G.v (some 2) bh<|G.addrA 175 118 2 bq 0 1 2 kV kV kV kV oV<|G.v (some 2) bi<|G.c call28 (Gh (hx.mono T) (hk.mono T) (SB.ten (sH.t k)) hq.ten) ?_;intro v4 u4 a7 r4;obtain⟨b4,a4,x4,c4,b6,bj,b7,rfl,_⟩:=r4.opn;refine G.callG _ _ kV kV call110 (g:=g2) (o:=V) (by rw[Ad _ _ q2,Ad _ _ j2];exact Q)
   (H7 (g1:=some g1) (y1:=b2) (y2:=(a2,x2,c2)) (y3:=false) (y4:=(W,a8,X)) (p:=k.1) (r:=k.2) (a9.mono a7) r4 (sK.t k) (by rw[Z];exact O3 sF.t sR.t k) (by
    have:Ek F.t H.t q (L2.map (·.1)) k=F.t k:=by unfold Ek;rw[if_neg hkn]
    rw[Z,this,A46];exact sR.t k)) ?_
  intro v5 u5 o5 al r5;rw[Z,Jo _ _ _ hkn]at r5;refine G.b (am (D2++[e],L2++[(k,_)]) _ _ _ cV ((aa.trans a7).trans al)
   ⟨hS',by rw[Ad _ _ (Ne.symm j2),Ad _ _ q3,Ab],by rw[Ad _ _ ab,Ad _ _ q1,Ad _ _ j1];exact R,o5,Ab _ _ _,by
    simpa[A3p] using r5⟩ (by have:=hS'.len;simp at this;dsimp only;simp;omega))
 case done2 =>
 intro ah;have b9:Ek F.t H.t q (L2.map (·.1))=(F.add (H.scale q)).t:=Me _ _ _ fun k hk=>bf k fun hm=>hk (by
  obtain⟨p,hp,rfl⟩:=A1b.1 hm;exact A1b.2 ⟨p,ah p hp,rfl⟩)
 rw[b9]at a9;have bn:=ag.len;refine G.drop ((PH.mt.upd g1 K).upd g2 V) kV (fun g o hg=>by
  by_cases e:g=g2
  ·subst e;rw[Ab]at hg;cases hg;exact Q
  rw[Ad _ _ e]at hg;by_cases e:g=g1
  ·subst e;rw[Ab]at hg;cases hg;exact R
  rw[Ad _ _ e]at hg;cases hg) ?_
 exact G.r (.agg #[.bool b2,.slice a2 x2 c2,zL,.slice W a8 X,.map (some g1),.map (some g2)]) ⟨_,_,_,_,_,_,_,_,g1,g2,K,V,rfl,r2.mono (ak.trans aa),ab,rfl,(hR.mono aa).up oV,a9.up oV⟩
end
theorem Arj {u:PH}{F H:CF}{N M:Nat}{v w:Value}(hv:R9 u v F N)(hw:R9 u w H M)(ok:Aw3 F H) :
 Ag prog 111 [v,w] u PH.mt fun v' u' V=>Kk V u' v' (F.mul H) (M+N+N*M):=by
 obtain⟨vb,va,vn,vc,b0,az,b3,b1,v1,v2,q1,q2,rfl,cy,f1,f2,s1,s2⟩:=id hv;obtain⟨wb,wa,wn,wc,b6,b5,b8,b7,w1,w2,p1,p2,rfl,cz,e1,e2,t1,t2⟩:=id hw;obtain⟨lv,⟨ab,Q,rfl,cu,bj⟩,dc,dk,f5⟩:=s1.at;obtain⟨lw,⟨ac,W,rfl,cv,bl⟩,df,dm,e9⟩:=t1.at;obtain⟨kv,⟨ba,ae,rfl,cd,bk⟩,dd,dl,et⟩:=s2.at;obtain⟨kw,⟨bb,af,rfl,ce,bm⟩,dg,dp,eu⟩:=t2.at;have cg:(lv.map (·.1)).Nodup:=Hu.nodup (enc:=Ap) ⟨ab,Q,rfl,cu,bj⟩;have ch:(lw.map (·.1)).Nodup:=Hu.nodup (enc:=Ap) ⟨ac,W,rfl,cv,bl⟩;have cw:(kv.map (·.1)).Nodup:=Hu.nodup (enc:=prV) ⟨ba,ae,rfl,cd,bk⟩;have cx:(kw.map (·.1)).Nodup:=Hu.nodup (enc:=prV) ⟨bb,af,rfl,ce,bm⟩;refine Ag.o func111<|G.callO _ _ kV call46 (Jm (n:=0) oV oV) ?_;rintro v3 u3 m3 l3 ⟨b,a,n,c,b',a',n',c',g1,g2,o1,o2,rfl,_,al,rfl,h1,h2⟩ _;rw[By];refine G.c call28 (Gh (cy.mono l3) (cz.mono l3) (SB.ten ok.a.c) (SB.ten ok.b.c)) ?_;intro v5 u5 l5 r5;obtain⟨b2,a2,x2,c2,I,P,K,rfl,_⟩:=r5.opn;have d4:=l3.trans l5;obtain⟨m5,e8,cs,ct⟩:∃ m5:PH,m5=(PH.mt.upd g1 o1).upd g2 o2/\m5 g1=some o1/\m5 g2=some o2:=⟨_,rfl,by rw[Ad _ _ al,Ab],Ab _ _ _⟩;rw[<-e8];have ap:CFS (F.scale H.c):=ok.d;have da:CFS (H.scale F.c):=ok.c;have ci:∀ k,SB ((F.scale H.c).s k+H.s k*F.c):=fun k=>by rw[A46];exact ok.e.s k
 have bi:∀ k,SB ((F.scale H.c).t k+H.t k*F.c):=fun k=>by rw[A46];exact ok.e.t k
 have di:∀ k:Par,SB ((fun _:Par=>(0:Rat)) k+F.s k*H.c):=fun k=>by show SB (0+F.s k*H.c);rw[A9f];exact ap.s k
 have dj:∀ k:Par×Par,SB ((fun _:Par×Par=>(0:Rat)) k+F.t k*H.c):=fun k=>by show SB (0+F.t k*H.c);rw[A9f];exact ap.t k
 have e3:D7 Ap KT u5 o1 (fun _=>0) 0:=h1.mono l5;have dx:D7 prV KO u5 o2 (fun _=>0) 0:=h2.mono l5;have f6:=d4;refine G.mapRange v1 ab Q 118 69 kV (.inl (d4 _ _ f1)) ?_;intro aq c8 em;have d0:g1≠aq:=fun e=>by subst e;rw[c8]at cs;cases cs
 have dq:g2≠aq:=fun e=>by subst e;rw[c8]at ct;cases ct
 refine G.l (ι:=List MapEntry×List ((Par)×Value)) (fun _=>[(2,.p 0 0),(3,.p 1 0),(4,.p 2 0),(5,.p 1001 0),(28,.v (.pointer (zA aq)))])
  (fun _=>[(0,⟨108,[bV vb,sV va vn vc,bV b0,sV az b3 b1,.v (.map (some v1)),.v (.map (some v2))]⟩),(1,⟨108,[bV wb,sV wa wn wc,bV b6,sV b5 b8 b7,.v (.map (some w1)),.v (.map (some w2))]⟩),(2,⟨108,[bF,sN,bF,sN,.v (.map none),.v (.map none)]⟩),(1001,⟨108,[bV b2,sV a2 x2 c2,bF,sV I P K,.v (.map (some g1)),.v (.map (some g2))]⟩)])
  (fun i u' V=>Gj Ap ab lv i.1 i.2/\V aq=some (.mapIter (some v1) Q (Ar i.1) Q)/\V g2=some o2/\∃ oo,V g1=some oo/\D7 Ap KT u' oo (Ek (fun _=>0) F.s H.c (i.2.map (·.1))) (0+i.2.length))
  (fun i=>lv.length-i.2.length) ([],[])
  ⟨Gj.nil _ _,Ab _ _ _,by rw[Ad _ _ dq];exact ct,_,by rw[Ad _ _ d0];exact cs,by
   have:Ek (fun _=>0) F.s H.c (([]:List ((Par)×Value)).map (·.1))=(fun _=>0):=by funext k;simp[Ek]
   dsimp only;rw[this];exact e3⟩ ?_
 rintro JA ⟨D,LA⟩ cm uA mA lA ⟨X,E,a0,oA,ah,bd⟩;simp only at X E a0 ah bd cm;have au:=d4.trans lA;refine G.mapNextL Bq.inj aq v1 ab Q lv D LA kV kV E (.inl (au _ _ f1)) bj cu cg X ?doneA ?nextA
 case nextA =>
  rintro⟨k,xv⟩ e hp hkn he hek hev hS';simp only at hkn hek hev;obtain⟨hx,ad⟩:=dc _ hp;simp only at hx ad;obtain⟨yb,ya,yn,yc,bn,bp,bo,rfl,_⟩:=hx.opn;refine G.mapEntry aq v1 ab Q D e kV (Ab _ _ _) (.inl (au _ _ f1)) bj he ?_;rw[hek,hev];refine G.c call28 (Gh (hx.mono au) (cz.mono au) (SB.ten (ok.a.s k)) (SB.ten ok.b.c)) ?_;intro v4 u4 a3 r4;obtain⟨b4,a4,x4,c4,ck,d7,cl,rfl,_⟩:=r4.opn;refine G.callG _ _ kV kV call109 (g:=g1) (o:=oA) (by rw[Ad _ _ d0];exact ah)
   (Oi (g2:=some g2) (y1:=b2) (y2:=(a2,x2,c2)) (y3:=false) (y4:=(I,P,K)) (bd.mono a3) r4 (ap.s k) (O3 (fun _=>SB.zero) di k) (by
    have:Ek (fun _=>0) F.s H.c (LA.map (·.1)) k=(fun _=>0) k:=by unfold Ek;rw[if_neg hkn]
    rw[this,A46];exact di k)) ?_
  intro v5 u5 o5 a5 a6;rw[Jo _ _ _ hkn]at a6;refine G.b (cm (D++[e],LA++[(k,_)]) _ _ _ cV ((lA.trans a3).trans a5)
   ⟨hS',by rw[Ad _ _ (Ne.symm d0),Ab],by rw[Ad _ _ (Ne.symm al),Ad _ _ dq];exact a0,o5,Ab _ _ _,by
    simpa[A3p] using a6⟩ (by have:=hS'.len;simp at this;dsimp only;simp;omega))
 case doneA =>
 intro C;rw[Me _ _ _ fun k hk=>dk k fun hm=>hk (by
  obtain⟨p,hp,rfl⟩:=A1b.1 hm;exact A1b.2 ⟨p,C p hp,rfl⟩)]at bd
 have eg:=X.len;have e4:=bd.congr (f':=(F.scale H.c).s) (fun k=>by show 0+F.s k*H.c=F.s k*H.c;rw[A9f]);have dy:=dx.mono lA;clear cm X E C bd;refine G.mapRange w1 ac W 118 69 kV (.inl (au _ _ e1)) ?_;intro ar ca eo;have d1:g1≠ar:=fun e=>by subst e;rw[ca]at ah;cases ah
 have dr:g2≠ar:=fun e=>by subst e;rw[ca]at a0;cases a0
 refine G.l (ι:=List MapEntry×List ((Par)×Value)) (fun _=>[(2,.p 0 0),(3,.p 1 0),(4,.p 2 0),(5,.p 1001 0),(43,.v (.pointer (zA ar)))])
  (fun _=>[(0,⟨108,[bV vb,sV va vn vc,bV b0,sV az b3 b1,.v (.map (some v1)),.v (.map (some v2))]⟩),(1,⟨108,[bV wb,sV wa wn wc,bV b6,sV b5 b8 b7,.v (.map (some w1)),.v (.map (some w2))]⟩),(2,⟨108,[bF,sN,bF,sN,.v (.map none),.v (.map none)]⟩),(1001,⟨108,[bV b2,sV a2 x2 c2,bF,sV I P K,.v (.map (some g1)),.v (.map (some g2))]⟩)])
  (fun i u' V=>Gj Ap ac lw i.1 i.2/\V ar=some (.mapIter (some w1) W (Ar i.1) W)/\V g2=some o2/\∃ oo,V g1=some oo/\D7 Ap KT u' oo (Ek (F.scale H.c).s H.s F.c (i.2.map (·.1))) (0+LA.length+i.2.length))
  (fun i=>lw.length-i.2.length) ([],[])
  ⟨Gj.nil _ _,Ab _ _ _,by rw[Ad _ _ dr];exact a0,_,by rw[Ad _ _ d1];exact ah,by
   have:Ek (F.scale H.c).s H.s F.c (([]:List ((Par)×Value)).map (·.1))=(F.scale H.c).s:=by funext k;simp[Ek]
   dsimp only;rw[this];exact e4⟩ ?_
 rintro JB ⟨D,LB⟩ cn uB mB lB ⟨X,E,a1,oB,ai,be⟩;simp only at X E a1 ai be cn;have av:=au.trans lB;refine G.mapNextL Bq.inj ar w1 ac W lw D LB kV kV E (.inl (av _ _ e1)) bl cv ch X ?doneB ?nextB
 case nextB =>
  rintro⟨k,xv⟩ e hp hkn he hek hev hS';simp only at hkn hek hev;obtain⟨hx,ad⟩:=df _ hp;simp only at hx ad;obtain⟨yb,ya,yn,yc,bn,bp,bo,rfl,_⟩:=hx.opn;refine G.mapEntry ar w1 ac W D e kV (Ab _ _ _) (.inl (av _ _ e1)) bl he ?_;rw[hek,hev];refine G.c call28 (Gh (hx.mono av) (cy.mono av) (SB.ten (ok.b.s k)) (SB.ten ok.a.c)) ?_;intro v4 u4 a3 r4;obtain⟨b4,a4,x4,c4,ck,d7,cl,rfl,_⟩:=r4.opn;refine G.callG _ _ kV kV call109 (g:=g1) (o:=oB) (by rw[Ad _ _ d1];exact ai)
   (Oi (g2:=some g2) (y1:=b2) (y2:=(a2,x2,c2)) (y3:=false) (y4:=(I,P,K)) (be.mono a3) r4 (da.s k) (O3 ap.s ci k) (by
    have:Ek (F.scale H.c).s H.s F.c (LB.map (·.1)) k=(F.scale H.c).s k:=by unfold Ek;rw[if_neg hkn]
    rw[this,A46];exact ci k)) ?_
  intro v5 u5 o5 a5 a6;rw[Jo _ _ _ hkn]at a6;refine G.b (cn (D++[e],LB++[(k,_)]) _ _ _ cV ((lB.trans a3).trans a5)
   ⟨hS',by rw[Ad _ _ (Ne.symm d1),Ab],by rw[Ad _ _ (Ne.symm al),Ad _ _ dr];exact a1,o5,Ab _ _ _,by
    simpa[A3p] using a6⟩ (by have:=hS'.len;simp at this;dsimp only;simp;omega))
 case doneB =>
 intro C;rw[Me _ _ _ fun k hk=>dm k fun hm=>hk (by
  obtain⟨p,hp,rfl⟩:=A1b.1 hm;exact A1b.2 ⟨p,C p hp,rfl⟩)]at be
 have eh:=X.len;have e5:=be.congr (f':=(F.mul H).s) (fun k=>by show F.s k*H.c+H.s k*F.c=H.s k*F.c+F.s k*H.c;rw[A46]);have dz:=dy.mono lB;clear cn X E C be;refine G.mapRange v2 ba ae 175 69 kV (.inl (av _ _ f2)) ?_;intro aj cb ep;have d2:g1≠aj:=fun e=>by subst e;rw[cb]at ai;cases ai
 have bw:g2≠aj:=fun e=>by subst e;rw[cb]at a1;cases a1
 refine G.l (ι:=List MapEntry×List ((Par×Par)×Value)) (fun _=>[(2,.p 0 0),(3,.p 1 0),(4,.p 2 0),(5,.p 1001 0),(58,.v (.pointer (zA aj)))])
  (fun _=>[(0,⟨108,[bV vb,sV va vn vc,bV b0,sV az b3 b1,.v (.map (some v1)),.v (.map (some v2))]⟩),(1,⟨108,[bV wb,sV wa wn wc,bV b6,sV b5 b8 b7,.v (.map (some w1)),.v (.map (some w2))]⟩),(2,⟨108,[bF,sN,bF,sN,.v (.map none),.v (.map none)]⟩),(1001,⟨108,[bV b2,sV a2 x2 c2,bF,sV I P K,.v (.map (some g1)),.v (.map (some g2))]⟩)])
  (fun i u' V=>Gj prV ba kv i.1 i.2/\V aj=some (.mapIter (some v2) ae (Ar i.1) ae)/\V g1=some oB/\∃ oo,V g2=some oo/\D7 prV KO u' oo (Ek (fun _=>0) F.t H.c (i.2.map (·.1))) (0+i.2.length))
  (fun i=>kv.length-i.2.length) ([],[])
  ⟨Gj.nil _ _,Ab _ _ _,by rw[Ad _ _ d2];exact ai,_,by rw[Ad _ _ bw];exact a1,by
   have:Ek (fun _=>0) F.t H.c (([]:List ((Par×Par)×Value)).map (·.1))=(fun _=>0):=by funext k;simp[Ek]
   dsimp only;rw[this];exact dz⟩ ?_
 rintro JC ⟨D,LC⟩ co uC mC lC ⟨X,E,R,oC,a8,bf⟩;simp only at X E R a8 bf co;have aw:=av.trans lC;refine G.mapNextL I1.inj aj v2 ba ae kv D LC kV kV E (.inl (aw _ _ f2)) bk cd cw X ?doneC ?nextC
 case nextC =>
  rintro⟨k,xv⟩ e hp hkn he hek hev hS';simp only at hkn hek hev;obtain⟨hx,ad⟩:=dd _ hp;simp only at hx ad;obtain⟨yb,ya,yn,yc,bn,bp,bo,rfl,_⟩:=hx.opn;refine G.mapEntry aj v2 ba ae D e kV (Ab _ _ _) (.inl (aw _ _ f2)) bk he ?_;rw[hek,hev];have Z:=ad.fix;refine G.pub 13003 175 [zI k.1.1,zS k.1.2,zI k.2.1,zS k.2.2] kV kV ?_;intro bq ea U;have q1:g1≠bq:=fun e=>by subst e;rw[Ad _ _ d2,R]at U;cases U
  have q2:g2≠bq:=fun e=>by subst e;rw[Ad _ _ bw,a8]at U;cases U
  have q3:aj≠bq:=fun e=>by subst e;rw[Ab]at U;cases U
  obtain⟨d5,d6⟩:=Aly (m:=(mC.upd aj (.mapIter (some v2) ae (Ar (D++[e])) ae)).upd bq (.cells [Value.int .i64 k.1.1,zS k.1.2,zI k.2.1,zS k.2.2].toArray 175 (0,0))) (Ab _ _ _);refine G.addrA 175 118 2 bq 0 0 2 kV kV kV kV oV<|G.v (some 2) d5<|G.addrA 175 118 2 bq 0 1 2 kV kV kV kV oV<|G.v (some 2) d6<|G.c call28 (Gh (hx.mono aw) (cz.mono aw) (SB.ten (ok.a.t k)) (SB.ten ok.b.c)) ?_;intro v4 u4 a3 r4;obtain⟨b4,a4,x4,c4,ck,d7,cl,rfl,_⟩:=r4.opn;refine G.callG _ _ kV kV call110 (g:=g2) (o:=oC) (by rw[Ad _ _ q2,Ad _ _ bw];exact a8)
   (H7 (g1:=some g1) (y1:=b2) (y2:=(a2,x2,c2)) (y3:=false) (y4:=(I,P,K)) (p:=k.1) (r:=k.2) (bf.mono a3) r4 (ap.t k) (by rw[Z];exact O3 (fun _=>SB.zero) dj k) (by
    have:Ek (fun _=>0) F.t H.c (LC.map (·.1)) k=(fun _=>0) k:=by unfold Ek;rw[if_neg hkn]
    rw[Z,this,A46];exact dj k)) ?_
  intro v5 u5 o5 a5 a6;rw[Z,Jo _ _ _ hkn]at a6;refine G.b (co (D++[e],LC++[(k,_)]) _ _ _ cV ((lC.trans a3).trans a5)
   ⟨hS',by rw[Ad _ _ (Ne.symm bw),Ad _ _ q3,Ab],by rw[Ad _ _ al,Ad _ _ q1,Ad _ _ d2];exact R,o5,Ab _ _ _,by
    simpa[A3p] using a6⟩ (by have:=hS'.len;simp at this;dsimp only;simp;omega))
 case doneC =>
 intro C;rw[Me _ _ _ fun k hk=>dl k fun hm=>hk (by
  obtain⟨p,hp,rfl⟩:=A1b.1 hm;exact A1b.2 ⟨p,C p hp,rfl⟩)]at bf
 have ei:=X.len;have e0:=bf.congr (f':=(F.scale H.c).t) (fun k=>by show 0+F.t k*H.c=F.t k*H.c;rw[A9f]);have e6:=e5.mono lC;clear co X E C bf;refine G.mapRange w2 bb af 175 69 kV (.inl (aw _ _ e2)) ?_;intro ak cc er;have d3:g1≠ak:=fun e=>by subst e;rw[cc]at R;cases R
 have bx:g2≠ak:=fun e=>by subst e;rw[cc]at a8;cases a8
 refine G.l (ι:=List MapEntry×List ((Par×Par)×Value)) (fun _=>[(2,.p 0 0),(3,.p 1 0),(4,.p 2 0),(5,.p 1001 0),(76,.v (.pointer (zA ak)))])
  (fun _=>[(0,⟨108,[bV vb,sV va vn vc,bV b0,sV az b3 b1,.v (.map (some v1)),.v (.map (some v2))]⟩),(1,⟨108,[bV wb,sV wa wn wc,bV b6,sV b5 b8 b7,.v (.map (some w1)),.v (.map (some w2))]⟩),(2,⟨108,[bF,sN,bF,sN,.v (.map none),.v (.map none)]⟩),(1001,⟨108,[bV b2,sV a2 x2 c2,bF,sV I P K,.v (.map (some g1)),.v (.map (some g2))]⟩)])
  (fun i u' V=>Gj prV bb kw i.1 i.2/\V ak=some (.mapIter (some w2) af (Ar i.1) af)/\V g1=some oB/\∃ oo,V g2=some oo/\D7 prV KO u' oo (Ek (F.scale H.c).t H.t F.c (i.2.map (·.1))) (0+LC.length+i.2.length))
  (fun i=>kw.length-i.2.length) ([],[])
  ⟨Gj.nil _ _,Ab _ _ _,by rw[Ad _ _ d3];exact R,_,by rw[Ad _ _ bx];exact a8,by
   have:Ek (F.scale H.c).t H.t F.c (([]:List ((Par×Par)×Value)).map (·.1))=(F.scale H.c).t:=by funext k;simp[Ek]
   dsimp only;rw[this];exact e0⟩ ?_
 rintro JD ⟨D,LD⟩ cp uD mD lD ⟨X,E,T,oD,aa,bg⟩;simp only at X E T aa bg cp;have ax:=aw.trans lD;refine G.mapNextL I1.inj ak w2 bb af kw D LD kV kV E (.inl (ax _ _ e2)) bm ce cx X ?doneD ?nextD
 case nextD =>
  rintro⟨k,xv⟩ e hp hkn he hek hev hS';simp only at hkn hek hev;obtain⟨hx,ad⟩:=dg _ hp;simp only at hx ad;obtain⟨yb,ya,yn,yc,bn,bp,bo,rfl,_⟩:=hx.opn;refine G.mapEntry ak w2 bb af D e kV (Ab _ _ _) (.inl (ax _ _ e2)) bm he ?_;rw[hek,hev];have Z:=ad.fix;refine G.pub 17003 175 [zI k.1.1,zS k.1.2,zI k.2.1,zS k.2.2] kV kV ?_;intro bq ea U;have q1:g1≠bq:=fun e=>by subst e;rw[Ad _ _ d3,T]at U;cases U
  have q2:g2≠bq:=fun e=>by subst e;rw[Ad _ _ bx,aa]at U;cases U
  have q3:ak≠bq:=fun e=>by subst e;rw[Ab]at U;cases U
  obtain⟨d5,d6⟩:=Aly (m:=(mD.upd ak (.mapIter (some w2) af (Ar (D++[e])) af)).upd bq (.cells [Value.int .i64 k.1.1,zS k.1.2,zI k.2.1,zS k.2.2].toArray 175 (0,0))) (Ab _ _ _);refine G.addrA 175 118 2 bq 0 0 2 kV kV kV kV oV<|G.v (some 2) d5<|G.addrA 175 118 2 bq 0 1 2 kV kV kV kV oV<|G.v (some 2) d6<|G.c call28 (Gh (hx.mono ax) (cy.mono ax) (SB.ten (ok.b.t k)) (SB.ten ok.a.c)) ?_;intro v4 u4 a3 r4;obtain⟨b4,a4,x4,c4,ck,d7,cl,rfl,_⟩:=r4.opn;refine G.callG _ _ kV kV call110 (g:=g2) (o:=oD) (by rw[Ad _ _ q2,Ad _ _ bx];exact aa)
   (H7 (g1:=some g1) (y1:=b2) (y2:=(a2,x2,c2)) (y3:=false) (y4:=(I,P,K)) (p:=k.1) (r:=k.2) (bg.mono a3) r4 (da.t k) (by rw[Z];exact O3 ap.t bi k) (by
    have:Ek (F.scale H.c).t H.t F.c (LD.map (·.1)) k=(F.scale H.c).t k:=by unfold Ek;rw[if_neg hkn]
    rw[Z,this,A46];exact bi k)) ?_
  intro v5 u5 o5 a5 a6;rw[Z,Jo _ _ _ hkn]at a6;refine G.b (cp (D++[e],LD++[(k,_)]) _ _ _ cV ((lD.trans a3).trans a5)
   ⟨hS',by rw[Ad _ _ (Ne.symm bx),Ad _ _ q3,Ab],by rw[Ad _ _ al,Ad _ _ q1,Ad _ _ d3];exact T,o5,Ab _ _ _,by
    simpa[A3p] using a6⟩ (by have:=hS'.len;simp at this;dsimp only;simp;omega))
 case doneD =>
 intro C;rw[Me _ _ _ fun k hk=>dp k fun hm=>hk (by
  obtain⟨p,hp,rfl⟩:=A1b.1 hm;exact A1b.2 ⟨p,C p hp,rfl⟩)]at bg
 have ej:=X.len;have d8:=bg.congr (f':=((H.scale F.c).add (F.scale H.c)).t) (fun k=>by show F.t k*H.c+H.t k*F.c=H.t k*F.c+F.t k*H.c;rw[A46]);have e7:=e6.mono lD;clear cp X E C bg;obtain⟨base,bh⟩:∃ base:Par×Par->Rat,base=((H.scale F.c).add (F.scale H.c)).t:=⟨_,rfl⟩;have ag:=ok.acc;rw[<-bh]at d8 ag;have dv:=ok.pr;have du:=ok.con;refine G.mapRange v1 ab Q 118 69 kV (.inl (ax _ _ f1)) ?_;intro it db f4;have i1:g1≠it:=fun e=>by subst e;rw[db]at T;cases T
 have i2:g2≠it:=fun e=>by subst e;rw[db]at aa;cases aa
 refine G.l (ι:=List MapEntry×List (Par×Value)) (fun _=>[(2,.p 0 0),(3,.p 1 0),(4,.p 2 0),(5,.p 1001 0),(94,.v (.pointer (zA it)))])
  (fun _=>[(0,⟨108,[bV vb,sV va vn vc,bV b0,sV az b3 b1,.v (.map (some v1)),.v (.map (some v2))]⟩),(1,⟨108,[bV wb,sV wa wn wc,bV b6,sV b5 b8 b7,.v (.map (some w1)),.v (.map (some w2))]⟩),(2,⟨108,[bF,sN,bF,sN,.v (.map none),.v (.map none)]⟩),(1001,⟨108,[bV b2,sV a2 x2 c2,bF,sV I P K,.v (.map (some g1)),.v (.map (some g2))]⟩)])
  (fun i u' V=>Gj Ap ab lv i.1 i.2/\V it=some (.mapIter (some v1) Q (Ar i.1) Q)/\V g1=some oB/\∃ Ps:List (Par×Par),Ps.Nodup/\(∀ x:Par×Par,x∈Ps↔x.1∈i.2.map (·.1)/\x.2∈lw.map (·.1))/\∃ ay,V g2=some ay/\D7 prV KO u' ay (fun k=>base k+Er F H Ps k) (0+LC.length+LD.length+i.2.length*lw.length))
  (fun i=>lv.length-i.2.length) ([],[])
  ⟨Gj.nil _ _,Ab _ _ _,by rw[Ad _ _ i1];exact T,[],mV,mV,oD,by rw[Ad _ _ i2];exact aa,(d8.congr fun k=>by simp only[Er];grind).up mV⟩ ?_
 rintro J ⟨D,L⟩ hJ u6 m6 l6 ⟨X,E,ao,Ps,d9,cq,ay,bt,hR⟩;simp only at X E ao cq bt hR hJ;have c5:=ax.trans l6;refine G.mapNextL Bq.inj it v1 ab Q lv D L kV kV E (.inl (c5 _ _ f1)) bj cu cg X ?done1 ?next1
 case next1 =>
  rintro⟨p,xv⟩ e hp hpn he hek hev hS';simp only at hpn hek hev;have hx:=(dc _ hp).1;simp only at hx;obtain⟨yb,ya,yn,yc,bn,bp,bo,rfl,_⟩:=hx.opn;refine G.mapEntry it v1 ab Q D e kV (Ab _ _ _) (.inl (c5 _ _ f1)) bj he ?_;rw[hek,hev];refine G.mapRange w1 ac W 118 69 kV (.inl (c5 _ _ e1)) ?_;intro am a7 ek;have j1:g1≠am:=fun e=>by subst e;rw[Ad _ _ i1,ao]at a7;cases a7
  have j2:g2≠am:=fun e=>by subst e;rw[Ad _ _ i2,bt]at a7;cases a7
  have k1:it≠am:=fun e=>by subst e;rw[Ab]at a7;cases a7
  refine G.l (ι:=List MapEntry×List (Par×Value)) (fun _=>[(2,.p 0 0),(3,.p 1 0),(4,.p 2 0),(5,.p 1001 0),(14,.p 21003 0),(15,.p 21004 0),(94,.v (.pointer (zA it))),(102,.v (.pointer (zA am)))])
   (fun _=>[(0,⟨108,[bV vb,sV va vn vc,bV b0,sV az b3 b1,.v (.map (some v1)),.v (.map (some v2))]⟩),(1,⟨108,[bV wb,sV wa wn wc,bV b6,sV b5 b8 b7,.v (.map (some w1)),.v (.map (some w2))]⟩),(2,⟨108,[bF,sN,bF,sN,.v (.map none),.v (.map none)]⟩),(1001,⟨108,[bV b2,sV a2 x2 c2,bF,sV I P K,.v (.map (some g1)),.v (.map (some g2))]⟩),(21003,⟨118,[iV p.1,tV p.2]⟩),(21004,⟨69,[bV yb,sV ya yn yc,bF,sV bn bp bo]⟩)])
   (fun i u' V=>Gj Ap ac lw i.1 i.2/\V am=some (.mapIter (some w1) W (Ar i.1) W)/\V it=some (.mapIter (some v1) Q (Ar (D++[e])) Q)/\V g1=some oB/\∃ Qs:List (Par×Par),Qs.Nodup/\(∀ x:Par×Par,x∈Qs↔(x.1∈L.map (·.1)/\x.2∈lw.map (·.1))\/(x.1=p/\x.2∈i.2.map (·.1)))/\∃ oi,V g2=some oi/\D7 prV KO u' oi (fun k=>base k+Er F H Qs k) (0+LC.length+LD.length+L.length*lw.length+i.2.length))
   (fun i=>lw.length-i.2.length) ([],[])
   ⟨Gj.nil _ _,Ab _ _ _,by rw[Ad _ _ k1,Ab],by rw[Ad _ _ j1,Ad _ _ i1];exact ao,Ps,d9,by intro x;rw[cq];simp,ay,by rw[Ad _ _ j2,Ad _ _ i2];exact bt,hR⟩ ?_
  rintro J2 ⟨D2,L2⟩ iJ ui mi c3 ⟨iS,cj,c1,bz,Qs,bs,br,oi,c0,iR⟩;simp only at iS cj c1 bz br c0 iR iJ;have c6:=c5.trans c3;refine G.mapNextL Bq.inj am w1 ac W lw D2 L2 kV kV cj (.inl (c6 _ _ e1)) bl cv ch iS ?done2 ?next2
  case next2 =>
   rintro⟨k,yv⟩ e2 hk hkn he2 hek2 hev2 iS';simp only at hkn hek2 hev2;have hy:=(df _ hk).1;simp only at hy;obtain⟨zb,za,zn,zc,eb,ed,ec,rfl,_⟩:=hy.opn;have dh:(p,k)∉Qs:=fun h=>by
    rcases (br _).1 h with h|h
    ·exact hpn h.1
    exact hkn h.2
   have an:(Qs++[(p,k)]).Nodup:=by
    rw[A4p];exact⟨bs,mV,fun a ha b hb e'=>dh (by simp at hb;rw[<-hb,<-e'];exact ha)⟩
   have c7:∀ x:Par×Par,x∈Qs++[(p,k)]↔(x.1∈L.map (·.1)/\x.2∈lw.map (·.1))\/(x.1=p/\x.2∈(L2++[(k,Value.agg #[.bool zb,.slice za zn zc,zL,.slice eb ed ec])]).map (·.1)):=fun x=>by
    obtain⟨x1,x2⟩:=x;rw[A1h,br];simp only[A1i,A1h,A2u,A7m,A12,A2i];constructor
    ·rintro ((h|⟨h1,h2⟩)|⟨h1,h2⟩)
     ·exact .inl h
     ·exact .inr ⟨h1,.inl h2⟩
     exact .inr ⟨h1,.inr h2⟩
    rintro (h|⟨h1,h2|h2⟩)
    ·exact .inl (.inl h)
    ·exact .inl (.inr ⟨h1,h2⟩)
    exact .inr ⟨h1,h2⟩
   refine G.mapEntry am w1 ac W D2 e2 kV (Ab _ _ _) (.inl (c6 _ _ e1)) bl he2 ?_;rw[hek2,hev2];refine G.c call28 (Gh (hx.mono c6) (hy.mono c6) (SB.ten (ok.a.s p)) (SB.ten (ok.b.s k))) ?_;intro v9 u9 l9 r9;obtain⟨b9,a9,n9,c9,ey,f8,f3,rfl,_⟩:=r9.opn;by_cases bu:p=k
   ·have Y:con F H (p,k)=F.s p*H.s k+F.s p*H.s k:=by unfold con;rw[if_pos bu]
    refine G.eqAgg 118 #[zI p.1,zS p.2] #[zI k.1,zS k.2] true kV kV kV (fun w=>by rw[<-decide_eq_true bu];exact Bq.eq p k w)<|G.c call26 (Pd r9 r9 (SB.ten (dv p k)) (SB.ten (dv p k))) ?_;intro fa f9 ds dw;obtain⟨ez,ex,f7,f0,ee,ew,ef,rfl,_⟩:=dw.opn;refine G.callG _ _ kV kV call110 (g:=g2) (o:=oi) (by rw[Ad _ _ j2];exact c0)
     (H7 (g1:=some g1) (y1:=b2) (y2:=(a2,x2,c2)) (y3:=false) (y4:=(I,P,K)) (p:=p) (r:=k) (iR.mono (l9.trans ds)) dw (by have:=du (p,k);rw[Y]at this;exact this) (ag Qs bs _) (by
      have:=ag (Qs++[(p,k)]) an (Ay p k);rw[Jt,if_pos rfl,Y]at this;rw[show (F.s p*H.s k+F.s p*H.s k)+(base (Ay p k)+Er F H Qs (Ay p k))=base (Ay p k)+((F.s p*H.s k+F.s p*H.s k)+Er F H Qs (Ay p k)) by grind];exact this)) ?_
    intro v8 u8 o8 l8 r8;refine G.b (iJ (D2++[e2],L2++[(k,_)]) _ _ _ cV ((c3.trans (l9.trans ds)).trans l8)
     ⟨iS',by rw[Ad _ _ (Ne.symm j2),Ab],by rw[Ad _ _ (Ne.symm i2),Ad _ _ k1];exact c1,by rw[Ad _ _ al,Ad _ _ j1];exact bz,Qs++[(p,k)],an,c7,o8,Ab _ _ _,?_⟩ (by have:=iS'.len;simp at this;dsimp only;simp;omega))
    refine (r8.congr fun j=>?_).up (by simp[A3p]);rw[Jt,Y];unfold Nh;by_cases e:j=Ay p k
    ·rw[if_pos e,if_pos e,e];grind
    rw[if_neg e,if_neg e]
   have Y:con F H (p,k)=F.s p*H.s k:=by unfold con;rw[if_neg bu]
   refine G.eqAgg 118 #[zI p.1,zS p.2] #[zI k.1,zS k.2] false kV kV kV (fun w=>by rw[<-decide_eq_false bu];exact Bq.eq p k w)<|G.callG _ _ kV kV call110 (g:=g2) (o:=oi) (by rw[Ad _ _ j2];exact c0)
    (H7 (g1:=some g1) (y1:=b2) (y2:=(a2,x2,c2)) (y3:=false) (y4:=(I,P,K)) (p:=p) (r:=k) (iR.mono (l9)) r9 (by have:=du (p,k);rw[Y]at this;exact this) (ag Qs bs _) (by
     have:=ag (Qs++[(p,k)]) an (Ay p k);rw[Jt,if_pos rfl,Y]at this;rw[show (F.s p*H.s k)+(base (Ay p k)+Er F H Qs (Ay p k))=base (Ay p k)+((F.s p*H.s k)+Er F H Qs (Ay p k)) by grind];exact this)) ?_
   intro v8 u8 o8 l8 r8;refine G.b (iJ (D2++[e2],L2++[(k,_)]) _ _ _ cV ((c3.trans (l9)).trans l8)
    ⟨iS',by rw[Ad _ _ (Ne.symm j2),Ab],by rw[Ad _ _ (Ne.symm i2),Ad _ _ k1];exact c1,by rw[Ad _ _ al,Ad _ _ j1];exact bz,Qs++[(p,k)],an,c7,o8,Ab _ _ _,?_⟩ (by have:=iS'.len;simp at this;dsimp only;simp;omega))
   refine (r8.congr fun j=>?_).up (by simp[A3p]);rw[Jt,Y];unfold Nh;by_cases e:j=Ay p k
   ·rw[if_pos e,if_pos e,e];grind
   rw[if_neg e,if_neg e]
  case done2 =>
  intro cr;refine G.b (hJ (D++[e],L++[(p,_)]) _ _ _ cV (l6.trans c3) ⟨hS',c1,bz,Qs,bs,fun x=>?_,oi,c0,iR.up ?_⟩ (by have:=hS'.len;simp at this;dsimp only;simp;omega))
  ·rw[br];simp only[A1i,A1h,A2u,A7m,A12];constructor
   ·rintro (h|⟨h1,h2⟩)
    ·exact⟨.inl h.1,h.2⟩
    obtain⟨y,hy,e'⟩:=A1b.1 h2;exact⟨.inr h1,A1b.2 ⟨y,iS.sub y hy,e'⟩⟩
   rintro⟨h1|h1,h2⟩
   ·exact .inl ⟨h1,h2⟩
   obtain⟨y,hy,e'⟩:=A1b.1 h2;exact .inr ⟨h1,A1b.2 ⟨y,cr y hy,e'⟩⟩
  have:=iS.len;simp only[A1d,A3f,A30,A16];omega
 case done1 =>
 intro C;refine G.drop ((PH.mt.upd g1 oB).upd g2 ay) kV (fun g o hg=>?_) ?_
 ·by_cases e:g=g2
  ·subst e;rw[Ab]at hg;cases hg;exact bt
  rw[Ad _ _ e]at hg;by_cases e:g=g1
  ·subst e;rw[Ab]at hg;cases hg;exact ao
  rw[Ad _ _ e]at hg;cases hg
 refine G.r (.agg #[.bool b2,.slice a2 x2 c2,zL,.slice I P K,.map (some g1),.map (some g2)]) ⟨b2,a2,x2,c2,false,I,P,K,g1,g2,oB,ay,rfl,r5.mono ((((lA.trans lB).trans lC).trans lD).trans l6),al,rfl,(e7.mono l6).up oV,(hR.congr fun k=>?_).up ?_⟩
 ·rw[Amk F H d9 (fun p q h1 h2=>(cq _).2 ⟨?_,?_⟩) k,bh]
  ·rfl
  ·have:p∈lv.map (·.1):=A3m fun h=>h1 (dk p h);obtain⟨y,hy,e'⟩:=A1b.1 this;exact A1b.2 ⟨y,C y hy,e'⟩
  exact A3m fun h=>h2 (dm q h)
 have h1:=X.len;have h2:L.length*lw.length<=N*M:=A25 oV e9;omega
section
variable {p q:Par×Par}{κ:Type}
def Aox {κ:Type}{c:κ->κ->Int}(F:Ord c){S:List (κ×Rat)}{k:κ}{q:Rat}{n:Nat}(R:Hb c (S.map (·.1)))(U:k∉S.map (·.1))
 (J:∀ j x,j<n->S[j]?=some x->c x.1 k<0) (K:∀ x,S[n]?=some x->¬ c x.1 k<0):Hb c ((S.take n++[(k,q)]++S.drop n).map (·.1)):=by
 have C:Hb c ((S.take n).map (·.1)++(S.drop n).map (·.1)):=by rw[<-A1i,A4h];exact R
 unfold Hb at C⊢;rw[A35]at C;obtain⟨W,I,X⟩:=C;have L:∀ a∈(S.take n).map (·.1),c a k<0:=fun a t=>by
  obtain⟨x,E,rfl⟩:=A1b.1 t;obtain⟨j,T,rfl⟩:=A2y E;rw[A1e]at T;refine J j _ oV ?_;rw[A7w,A01 oV]
 have Q:∀ b∈(S.drop n).map (·.1),c k b<0:=by
  cases hd:S.drop n with
  |nil=>intro b h;simp at h
  |cons x B =>
   rw[hd,A2u,A8y]at I;have E:S[n]?=some x:=by
    have:=congrArg (fun l=>l[0]?) hd;simpa using this
   have H:x.1≠k:=fun e=>U (A1b.2 ⟨x,A1k E,e⟩);have Y:=K x E;have h0:c k x.1<0:=by
    have V:=F.sym k x.1;have Z:c x.1 k≠0:=fun e=>H (F.eq _ _ e);rw[V];omega
   intro b h;rw[A2u,A1g]at h;rcases h with rfl|h
   ·exact h0
   exact F.trans _ _ _ h0 (I.1 b h)
 rw[A1i,A1i,A35,A35];refine⟨⟨W,mV,fun a t b h=>?_⟩,I,fun a t b h=>?_⟩
 ·simp at h;subst h;exact L a t
 rcases A1h.1 t with t|t
 ·exact X a t b h
 simp at t;subst t;exact Q b h
def Vy {α:Type}{S:List α}{x y:α}{n:Nat}:y∈S.take n++[x]++S.drop n↔y∈S\/y=x:=by
 have h:y∈S↔y∈S.take n\/y∈S.drop n:=by rw[<-A1h,A4h]
 rw[h];simp only[A1h,A12];constructor
 ·rintro ((a|a)|a)
  ·exact .inl (.inl a)
  ·exact .inr a
  exact .inl (.inr a)
 rintro ((a|a)|a)
 ·exact .inl (.inl a)
 ·exact .inr a
 exact .inl (.inr a)
structure R3 {κ:Type}(c:κ->κ->Int)(f:κ->Rat)(L:List κ)(S:List (κ×Rat)):Prop where
 srt:Hb c (S.map (·.1))
 val:∀ p∈S,p.2=f p.1/\p.2≠0
 mem:∀ k,k∈S.map (·.1)↔k∈L/\f k≠0
def R3.nil {κ:Type}{c:κ->κ->Int}{f:κ->Rat}:R3 c f [] []:=⟨List.Pairwise.nil,fun p hp=>by simp at hp,fun k=>mV⟩
def R3.skip {c:κ->κ->Int}{f:κ->Rat}{L:List κ}{S:List (κ×Rat)}{k:κ}(h:R3 c f L S)(h0:f k=0):R3 c f (L++[k]) S:=⟨h.srt,h.val,fun j=>by
 rw[h.mem,A1h,A12];constructor
 ·rintro⟨a,b⟩;exact⟨.inl a,b⟩
 rintro⟨a|rfl,b⟩
 ·exact⟨a,b⟩
 exact absurd h0 b⟩
def R3.put {κ:Type}{c:κ->κ->Int}(F:Ord c){f:κ->Rat}{L:List κ}{S:List (κ×Rat)}{k:κ}{n:Nat}(h:R3 c f L S)(h0:f k≠0)(I:k∉L)
 (C:∀ j x,j<n->S[j]?=some x->c x.1 k<0) (E:∀ x,S[n]?=some x->¬ c x.1 k<0):R3 c f (L++[k]) (S.take n++[(k,f k)]++S.drop n) :=
 ⟨Aox F h.srt (fun e=>I ((h.mem k).1 e).1) C E,fun p hp=>by
  rcases Vy.1 hp with e|rfl
  ·exact h.val p e
  ·exact⟨rfl,h0⟩,fun j=>by
  have:=h.mem j;constructor
  ·intro H;obtain⟨p,hp,rfl⟩:=A1b.1 H;rcases Vy.1 hp with e|rfl
   ·obtain⟨a,b⟩:=this.1 (A1b.2 ⟨p,e,rfl⟩);exact⟨A24 _ a,b⟩
   exact⟨mV,h0⟩
  rintro⟨a,b⟩;rcases A1h.1 a with e|e
  ·obtain⟨p,hp,t⟩:=A1b.1 (this.2 ⟨e,b⟩);exact A1b.2 ⟨p,Vy.2 (.inl hp),t⟩
  rw[A12]at e;exact A1b.2 ⟨(k,f k),Vy.2 (.inr rfl),e.symm⟩⟩
def R3.can {c:κ->κ->Int}{f:κ->Rat}{L:List κ}{S:List (κ×Rat)}(h:R3 c f L S)(j:∀ k,k∉L->f k=0):Can c f S:=⟨h.srt,h.val,fun k t=>by
 rcases Bas (k∈L) with e|e
 ·exact A3m fun C=>t ((h.mem k).2 ⟨e,C⟩)
 exact j k e⟩
def Ato (h:Bk p.1 q.1<0):Oc p q<0:=by unfold Oc;rw[if_pos oV];exact h
def Avb (h:¬ Bk p.1 q.1<0)(j:p.1≠q.1):¬ Oc p q<0:=by
 have t:Bk p.1 q.1≠0:=fun e=>j (Et.eq _ _ e);unfold Oc;rw[if_pos t];exact h
def Aux (h:p.1=q.1):Oc p q=Bk p.2 q.2:=by unfold Oc;rw[h,Et.refl,if_neg mV]
def P4 {u:PH}(x y:(Par×Par)×Rat)(r:Bool)(h:decide (Oc x.1 y.1<0)=r):zF 114 [D8 x,D8 y] u fun v _=>v=.bool r:=by
 obtain⟨⟨⟨a1,a2⟩,t,C⟩,q⟩:=x;obtain⟨⟨⟨c1,c2⟩,E,F⟩,K⟩:=y;refine Fn0.o func114 ?_;by_cases e:Bk (a1,a2) (c1,c2)<0
 ·rw[decide_eq_true (Ato e)]at h;subst h;refine G.c call113 (Fp (a1,a2) (c1,c2) true (decide_eq_true e)) ?_;rintro J I H rfl;exact G.z zT
 refine G.c call113 (Fp (a1,a2) (c1,c2) false (decide_eq_false e)) ?_;rintro J I H rfl;by_cases j:((a1,a2):Par)=(c1,c2)
 ·refine G.eqAgg 118 #[zI a1,zS a2] #[zI c1,zS c2] true kV kV kV (fun w=>by rw[<-decide_eq_true j];exact Bq.eq (a1,a2) (c1,c2) w) ?_;rw[Aux j]at h;refine G.c call113 (Fp (t,C) (E,F) r h) ?_;rintro Q L l2 rfl;cases r with
  |true=>exact G.z zT
  |false=>exact G.z zL
 rw[decide_eq_false (Avb e j)]at h;subst h;exact G.eqAgg 118 #[zI a1,zS a2] #[zI c1,zS c2] false kV kV kV (fun w=>by rw[<-decide_eq_false j];exact Bq.eq (a1,a2) (c1,c2) w)<|G.z zL
section
variable {P:Program} [A6 P] {fn:Func} {Post:Ce} {st:List KI×S} {u m:PH}
def G.sliceFromG (a:zP)(n c k sz:Nat)(h:Aj P (adv P st)=.slice (some sz) (.slice a n c) (some (zI k)) none none)(Y:k<=n)(Z:n<=c)
 (g:G P fn Post (nx (adv P st) (.slice (if c=k then a else a.map (·.add (k*sz))) (n-k) (c-k))) u m):G P fn Post st u m:=by
 refine G.ask h mV (fun U o C w hp=>?_) g;obtain⟨t,X,L,H,M,F,K,Q,R,T,j⟩:=Jx C;obtain⟨J,W,I,pos,after,E⟩:=o;simp only at F;subst F;unfold Ot at j;split at j
 ·rename_i e hu;have V:(0:Int)<=k/\(k:Int)<=n:=oV;simp only[execOp,K,Q,R,T];simp only[Instr.sliceAt,Sem.run_bind,run_underlying hu,Result.andThen_ok,Instr.slice,Instr.sliceBounds,Instr.sliceBound,asIntOf,Sem.run_pure,if_true,Option.isSome,Sem.run_ite,Bf j,V,and_self,A23]
 cases j
end
end
end Go.Proofs.YtemmheaocgmebaaGreatDoor
