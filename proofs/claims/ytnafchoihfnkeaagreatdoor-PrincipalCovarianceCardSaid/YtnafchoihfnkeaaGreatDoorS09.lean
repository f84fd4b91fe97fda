/- Parts of one proof, joined by a program. -/
import Derived.Test.YtnafchoihfnkeaaGreatDoorS08
import Derived.RangeFuncSeq
import Derived.RangeFuncGives
import Derived.RangeFuncIn
import Derived.OrdersIn
import Derived.OwnWalkIn
set_option linter.defProp false
set_option linter.unusedVariables false
set_option linter.unusedSimpArgs false
set_option linter.unusedSectionVars false
set_option maxHeartbeats 16000000
namespace Go.Proofs.YtnafchoihfnkeaaGreatDoor
open Go.Proofs.Tryz
open Go.RowKit Go.MapKept
def Azo:=@List.foldl_append
def A1v:=@List.getElem?_mapIdx
def Azp:=@List.any_eq_false
def A2k:=@Classical.em
def Azh:=@List.pairwise_singleton
def A1s:=@List.mem_append_right
def Ax8:=@Rat.zero_add
def Aip {u:PH}{s:Src}{ts:List Int}{k:Nat}{v w x y:Value}{T:List (List UInt8×Nat)}(h:Lc u s ts)(hk:k<=s.n)(hT:Ad u v 2 (T.map Ej))(hl:T.length<=1000)(a0:∀ a∈T,1<=a.2/\a.2<=3)(hw:∃ a n c,w=.slice a n c)(hx:∃ a n c,x=.slice a n c)(hy:∃ z:Int,y=.int .i64 z) :
 Aj prog 27 [s.ptr,.agg #[v,w,x,y]] u (s.M k) fun r u' m'=>∃ (g:List (List UInt8)) (k':Nat),Ad u' r 1 (g.map nmV)/\g.length=T.length/\(∀ (i:Nat) (x:List UInt8×Nat) (t:List UInt8),T[i]?=some x->g[i]?=some t->Vt x.2 t)/\k'<=s.n/\m'=s.M k':=by
 obtain⟨a,c,rfl⟩:=hT.opn;obtain⟨wa,wn,wc,rfl⟩:=hw;obtain⟨xa,xn,xc,rfl⟩:=hx;obtain⟨z,rfl⟩:=hy;rw[Ata]at hT⊢;refine Aj.o func27<|G.l (ι:=Nat×Nat×List (List UInt8)×(Option Addr×Nat)) (fun i=>[(0,.v s.ptr),(5,sV i.2.2.2.1 i.2.2.1.length i.2.2.2.2),(9,sV a T.length c),(10,iV T.length),(11,iV i.1)]) (fun _=>[])
  (fun i u' m'=>i.1<=T.length/\i.2.1<=s.n/\i.2.2.1.length=i.1/\(∀ (j:Nat) (x:List UInt8×Nat) (t:List UInt8),T[j]?=some x->i.2.2.1[j]?=some t->Vt x.2 t)/\Bag m' [s.arr i.2.1,Aed i.2.2.2.1 i.2.2.2.2 i.2.2.1])
  (fun i=>T.length-i.1) (0,k,[],(none,0))
  ⟨Atu _,hk,rfl,fun j x t _ ht=>by simp at ht,s.bag0 k ⟨PH.mt,Ae.nil _ _ _,trivial⟩⟩ ?_
 rintro J ⟨i,k1,g,⟨na,nc⟩⟩ hJ u1 m1 l1 ⟨hi,N,P,Q,C⟩;simp only at hi N P Q C hJ;obtain⟨m0,V,hL⟩:=C;obtain⟨rfl,L⟩:=Src.split V;by_cases O:i<T.length
 ·refine G.lT i T.length ?_;have H:T[i]?=some T[i]:=As5 O;obtain⟨E,F⟩:=a0 T[i] (Ath O);obtain⟨ba,oa,rfl,ea⟩:=Ad.at' (hT.mono l1) (j:=i) (e:=Ej T[i]) (by simp[H]);generalize T[i]=q at ea H E F;refine G.a ba oa T.length c i 2 O<|G.lU (some 2) ba (oa+i*2) (.agg #[.string (mkS q.1),.int .i64 q.2]) ea<|G.D call77 (Src.apart L) (Ahk (x:=q) (h.mono l1) N E F) ?_;rintro v2 u2 m2 l2 ⟨t,k2,rfl,hv,Z,rfl⟩ _;refine G.B 9 1 16 (.string (mkS [])) [.string (mkS t)] (Kq [t]) ?_;intro g3 u3 l3 e3;have I:Bag (m0.or (s.M k2)) [s.arr k2,Aed na nc g]:=⟨m0,Src.at L,hL⟩;obtain⟨mm,W,U⟩:=I.focus 1 rfl;rw[Agp]at W;refine G.k 9 1 16 (.string (mkS [])) mm (g.map nmV) [.string (mkS t)] (.slice na g.length nc) g3 0 1 1 W e3 (Kq [t]) ?_;intro v4 m4 m;rw[show g.map nmV++[.string (mkS t)]=(g++[t]).map nmV by rw[Atk];rfl]at m;obtain⟨a4,c4,rfl⟩:=m.shape;rw[Ata]at m⊢;have K:=U (Aed a4 c4 (g++[t])) m4 m;refine G.i i<|G.b (hJ (i+1,k2,g++[t],(a4,c4)) _ _ _ cV ((l1.trans l2).trans l3) ⟨dV,Z,by dsimp only;simp[P],?_,K⟩ dV);intro j x' t' R d;dsimp only at d;rcases At8 j g.length with X|X
  ·rw[Atl X]at d;exact Q j x' t' R d
  rw[At1 X]at d;have Y:j-g.length=0:=by
   obtain⟨h',_⟩:=Atc.1 d;simp at h';omega
  rw[Y]at d;obtain rfl:j=i:=oV;rw[H]at R;cases R;simp at d;subst d;exact hv
 obtain rfl:i=T.length:=oV;refine G.lF T.length T.length<|G.giveP (ma:=m0) (sm:=s.M k1) kV rfl (Src.apart L) (s.h0 k k1) ?_;intro u2 l2 hm;exact G.r (.slice na g.length nc) ⟨g,k1,hL.list hm 0 rfl,P,Q,N,rfl⟩
section
variable {C:CF}{F:List Aq}{a i:Nat}{f:Aq}{lab:Int}{p:Par}{q:Rat}{ss:List (List UInt8)}{w:List UInt8}
structure CF.One (F:CF):Prop where
 c:F.c=1
 t:∀ k,F.t k=if 0<Bd k.1 k.2 then 0 else F.s k.1*F.s k.2
theorem CF.One.num:(CF.num 1).One:=⟨rfl,fun k=>by
 show (0:Rat)=if 0<Bd k.1 k.2 then 0 else (0:Rat)*0
 split
 ·rfl
 grind⟩
def Arh (p:Par)(q:Rat)(k:Par):(CF.one1 p q).s k=if k=p then q else 0:=rfl
theorem CF.One.one1 (p:Par)(q:Rat):(CF.one1 p q).One:=⟨rfl,fun k=>by
 show (if k=(p,p) then q*q else 0)=if 0<Bd k.1 k.2 then 0 else (if k.1=p then q else 0)*(if k.2=p then q else 0)
 obtain⟨x,y⟩:=k;by_cases h:(x,y)=(p,p)
 ·obtain⟨g,j⟩:=Prod.mk.inj h;subst j;rw[g];have:=Fr.refl y;rw[if_pos rfl,if_neg (by simp only;omega)];simp
 rw[if_neg h];split
 ·rfl
 by_cases d:x=p
 ·have m:y≠p:=fun e=>h (by rw[d,e]);simp only[m,if_false];grind
 simp only[d,if_false];grind⟩
theorem CF.One.mul {F G:CF}(hF:F.One)(d:G.One):(F.mul G).One/\∀ p,(F.mul G).s p=F.s p+G.s p:=by
 have e:∀ p,(F.mul G).s p=F.s p+G.s p:=fun p=>by
  show G.s p*F.c+F.s p*G.c=_;rw[hF.c,d.c];grind
 refine⟨⟨?_,fun k=>?_⟩,e⟩
 ·show F.c*G.c=1;rw[hF.c,d.c];decide +kernel
 rw[e,e];show G.t k*F.c+F.t k*G.c+Hi F G k=_;rw[hF.c,d.c,hF.t,d.t];unfold Hi;split
 ·grind
 split
 ·rename_i he;rw[<-he];grind
 grind
abbrev LF:Type:=Option (Option (Par×Rat))
def LF.cf:LF->CF
 |none=>CF.num 0
 |some none=>CF.num 1
 |some (some x)=>CF.one1 x.1 x.2
def G4 (C:CF)(L:List LF):CF:=L.foldl (fun c y=>c.mul y.cf) C
def Ws (C:CF)(L:List LF)(x:LF):G4 C (L++[x])=(G4 C L).mul x.cf:=by unfold G4;rw[Azo];rfl
def Als (F:CF):(CF.num 0).mul F=CF.num 0:=by
 rw[CF.mul_comm];exact CF.mul_zero F
def Wy:∀ L,G4 (CF.num 0) L=CF.num 0
 |[]=>rfl
 |x::L=>by
  unfold G4;rw[Aye,Als];exact Wy L
def Agz {L:List LF}(h:none∈L):G4 C L=CF.num 0:=by
 obtain⟨A,B,rfl⟩:=Ay9 h;unfold G4;rw[Azo,Aye];have:(List.foldl (fun c (y:LF)=>c.mul (LF.cf y)) C A).mul (LF.cf none)=CF.num 0:=CF.mul_zero _;rw[this];exact Wy B
def LF.one {x:LF}(h:x≠none):x.cf.One:=by
 match x,h with
 |some none,_=>exact CF.One.num
 |some (some x),_=>exact CF.One.one1 _ _
def Uf:∀ {L:List LF} {C:CF},C.One->none∉L->(G4 C L).One
 |[],C,h,_=>h
 |x::L,C,h,hn=>by
  have d:x≠none:=fun e=>hn (by rw[e];exact Aw3 ..);unfold G4;rw[Aye];exact Uf (h.mul (LF.one d)).1 fun e=>hn (Auv _ e)
theorem Yy {p:Par}:∀ {L:List LF} {C:CF},C.One->none∉L->(∀ q,some (some (p,q))∉L)->(G4 C L).s p=C.s p
 |[],C,h,_,_=>rfl
 |x::L,C,h,hn,hp=>by
  have g:x≠none:=fun e=>hn (by rw[e];exact Aw3 ..);have d:=h.mul (LF.one g);unfold G4;rw[Aye];have:=Yy (p:=p) d.1 (fun e=>hn (Auv _ e)) fun q e=>hp q (Auv _ e);unfold G4 at this;rw[this,d.2];have j:x.cf.s p=0:=by
   match x,g,hp with
   |some none,_,_=>rfl
   |some (some (p',q)),_,hp =>
    show (if p=p' then q else 0)=0;rw[if_neg fun e=>hp q (by rw[e];exact Aw3 ..)]
  rw[j];grind
theorem Aof {L:List LF}(h:C.One)(J:none∉L)(Q:C.s p=0)(O:L[a]?=some (some (some (p,q))))(I:∀ b g,L[b]?=some (some (some (p,g)))->b=a):(G4 C L).s p=q:=by
 obtain⟨P,t⟩:=Atc.1 O;have e:L=L.take a++some (some (p,q))::L.drop (a+1):=by
  rw[<-t,List.getElem_cons_drop,Awg]
 have m:none∉L.take a:=fun j=>J (Avd j);have v:none∉L.drop (a+1):=fun j=>J (Avz j);have z:∀ g,some (some (p,g))∉L.take a:=fun g j=>by
  obtain⟨b,u,d⟩:=Avy j;rw[Atm]at u;rw[Azn]at d;have:=I b g (by rw[As5 oV,d]);omega
 have E:∀ g,some (some (p,g))∉L.drop (a+1):=fun g j=>by
  obtain⟨b,u,d⟩:=Avy j;rw[Ax4]at u;rw[List.getElem_drop]at d;have:=I (a+1+b) g (by rw[As5 oV,d]);omega
 rw[e];have K:=Yy (p:=p) h m z;have n:=Uf h m;have H:=n.mul (CF.One.one1 p q);have N:=Yy (p:=p) H.1 v E;have:G4 C (L.take a++some (some (p,q))::L.drop (a+1))=G4 ((G4 C (L.take a)).mul (CF.one1 p q)) (L.drop (a+1)):=by
  unfold G4;rw[Azo,Aye];rfl
 rw[this,N,H.2,K,Q,Arh,if_pos rfl];grind
noncomputable def Ss (t:List UInt8):Rat:=open Classical in if h:∃ q,SmW q/\t=Ap q then h.choose else 0
def Aih {t:List UInt8}(h:∃ q,SmW q/\t=Ap q):SmW (Ss t)/\Ap (Ss t)=t:=by
 unfold Ss;rw[dif_pos h];exact⟨h.choose_spec.1,h.choose_spec.2.symm⟩
noncomputable def Jr (i:Nat)(f:Aq)(w:List UInt8):LF:=if f.2.1=2 then some (some (((i:Int),w),1)) else if w = [] then (if f.2.2=1 then none else some none) else some (some (((i:Int),[]),Ss w))
noncomputable def Rp (w:List UInt8):LF:=if w = [] then none else some (some ((-1,[]),Ss w))
noncomputable def Ge (F:List Aq)(lab:Int)(a:Nat)(w:List UInt8):LF:=if (a:Int)=lab then Rp w else match F.findIdx? (fun f=>f.1==a) with|some k=>Jr k (F.getD k (0,0,0)) w|none=>some none
noncomputable def E4 (F:List Aq)(lab:Int)(ss:List (List UInt8)):List LF:=ss.mapIdx (Ge F lab)
def Ib (h:ss[a]?=some w):(E4 F lab ss)[a]?=some (Ge F lab a w):=by
 unfold E4;rw[A1v,h];rfl
def Gl :(E4 F lab ss).length=ss.length:=by unfold E4;simp
def Akl (h:(F.map (·.1)).Nodup)(d:F[i]?=some f):F.findIdx? (fun g=>g.1==f.1)=some i:=by
 obtain⟨hi,rfl⟩:=Atc.1 d;refine Axz.2 ⟨hi,mV,fun j m=>?_⟩;simp only[beq_iff_eq];intro e;have:=(A08 (xs:=F.map (·.1)) (h₀:=by rw[Ata];omega) (h₁:=by rw[Ata];omega) (i:=j) (j:=i) h).1 (by rw[Awp,Awp];exact e);omega
def Xm (g:(F.map (·.1)).Nodup)(d:F[i]?=some f)(e:(f.1:Int)≠lab):Ge F lab f.1 w=Jr i f w:=by
 unfold Ge;rw[if_neg e,Akl g d];simp[As7,d]
def Gj (h:(a:Int)≠lab):Ge F lab a w=some none\/∃ (i:Nat) (f:Aq),F[i]?=some f/\f.1=a/\Ge F lab a w=Jr i f w:=by
 unfold Ge;rw[if_neg h];cases hx:F.findIdx? (fun f=>f.1==a) with
 |none=>exact .inl rfl
 |some k =>
  obtain⟨d,e,_⟩:=Axz.1 hx;right;refine⟨k,F[k],As5 d,by simpa using e,?_⟩;simp[As7,As5 d]
def Aix (E:-1<=lab){a b:Nat}{q z:Rat}(d:(E4 F lab ss)[a]?=some (some (some (p,q))))(t:(E4 F lab ss)[b]?=some (some (some (p,z)))):b=a:=by
 have key:∀ {a:Nat} {q:Rat},(E4 F lab ss)[a]?=some (some (some (p,q)))->((a:Int)=lab/\p.1 = -1)\/∃ (i:Nat) (f:Aq),F[i]?=some f/\f.1=a/\p.1=(i:Int):=by
  intro a q d;unfold E4 at d;rw[A1v]at d;cases hw:ss[a]? with
  |none=>rw[hw]at d;cases d
  |some w =>
   rw[hw]at d;simp only[Awh,Atd]at d;by_cases h:(a:Int)=lab
   ·left;unfold Ge Rp at d;rw[if_pos h]at d;split at d
    ·cases d
    cases d;exact⟨h,rfl⟩
   right;rcases Gj (F:=F) (w:=w) h with e|⟨i,f,g,j,n⟩
   ·rw[e]at d;cases d
   rw[n]at d;refine⟨i,f,g,j,?_⟩;unfold Jr at d;split at d
   ·cases d;rfl
   split at d
   ·split at d<;>cases d
   cases d;rfl
 rcases key d with ⟨g,j⟩|⟨i,f,g,j,n⟩<;>rcases key t with ⟨m,v⟩|⟨u,f',m,v,H⟩
 ·omega
 ·omega
 ·omega
 obtain rfl:u=i:=oV;rw[g]at m;cases m;omega
end
section
variable {q:Rat}{t:List UInt8}{x:LF}
def Akn {m:PH}{b:Nat}{t:TypeId}{xs:List Value}{e:Value}(h:m b=some (.cells xs.toArray t (0,0)))(g:e.cells=xs.toArray):ElP m b 0 e:=fun i x d=>by
 refine⟨_,_,_,h,?_⟩;rw[g]at d;simpa using d
def Lp.up {u:PH}{v:Value}{F:CF}{K d:Nat}(h:Lp u v F K)(H:K<=d):Lp u v F d:=by
 obtain⟨T,Q,g,m,j,n,e,hT,E,C,z,kT,I⟩:=h;exact⟨T,Q,g,m,j,n,e,hT,E,C,z,oV,oV⟩
def SmW.dat (h:SmW q):Dat q:=⟨by have:=h.num;omega,h.le⟩
def SmW.sb (h:SmW q):SB q:=h.dn.small oV (pw jV)
def SmW.sb2 (h:SmW q):SB (q*q):=(h.dn.mul h.dn).small oV (pw jV)
def P0:SmW 1:=⟨jV,jV⟩
def LF.Small:LF->Prop
 |some (some x)=>SmW x.2/\PV x.1
 |_=>True
theorem LF.Small.cfd (h:x.Small):CFD 2 343731600 x.cf:=by
 match x,h with
 |none,_=>exact CFD.count (Dn.zero _ _)
 |some none,_=>exact CFD.count ⟨144,jV,fV⟩
 |some (some x),h =>
  have d:Dn 2 343731600 x.2:=by
   have:=h.1.dn.mul (show Dn 1 18540 1 from⟨12,jV,fV⟩);rw[show x.2*1=x.2 by grind]at this;exact this.mono oV
  exact Akw ⟨144,jV,fV⟩ d ((h.1.dn.mul h.1.dn).mono oV)
def LF.Small.cfv (h:x.Small):CFV x.cf:=by
 match x,h with
 |none,_=>exact CFV.count 0
 |some none,_=>exact CFV.count 1
 |some (some x),h=>exact Al4 h.2
def Pj {L:List LF}(h:∀ x∈L,x.Small):∀ i,i<=L.length->CFD (2*i) (1374926400^i) (G4 (CF.num 1) (L.take i))/\CFV (G4 (CF.num 1) (L.take i))
 |0,_=>⟨CFD.count ⟨1,jV,fV⟩,CFV.count 1⟩
 |i+1,hi=>by
  obtain⟨g,j⟩:=Pj h i oV;have d:=h _ (Ath (show i<L.length by omega));have e:L.take (i+1)=L.take i++[L[i]]:=by rw[At0,As5 oV];rfl
  rw[e,Ws];refine⟨?_,j.mul d.cfv⟩;have:=g.mul d.cfd;rw[show 2*(i+1)=2*i+2 by omega];exact this.mono (by rw[Auc];omega)
def K3 (h:Rb 2 t)(d:t≠[]):SmW (Ss t)/\Ap (Ss t)=t:=by
 rcases h with e|⟨e,_⟩|⟨e,_⟩|⟨_,q,g,e⟩
 ·exact absurd e d
 ·omega
 ·omega
 exact Aih ⟨q,g,e⟩
def Adt {T:List (List UInt8×Nat)}{F:List Aq}{lab:Int}{a:Nat}{x:List UInt8×Nat}(hF:Ef T F lab)(j:∀ l:Nat,lab=(l:Int)->∃ n,T[l]?=some (n,2))(I:F.length<=8)(u:T[a]?=some x)(m:Rb x.2 t):(Ge F lab a t).Small:=by
 by_cases d:(a:Int)=lab
 ·obtain⟨n,z⟩:=j a d.symm;rw[u]at z;cases z;unfold Ge Rp;rw[if_pos d];by_cases h:t = []
  ·rw[if_pos h];trivial
  rw[if_neg h];exact⟨(K3 m h).1,⟨by show (-1:Int)<=-1;omega,by show (-1:Int)<=1000;omega,.inl rfl⟩⟩
 rcases Gj (F:=F) (w:=t) d with e|⟨i,f,v,rfl,H⟩
 ·rw[e];trivial
 rw[H];obtain⟨hi,_⟩:=Atc.1 v;obtain⟨n,k,J,g,_⟩:=hF.ok f (Ato v);rw[J]at u;cases u;unfold Jr;rcases g with ⟨C,E,L⟩|⟨C,E,L⟩
 ·rw[if_neg oV];by_cases h:t = []
  ·rw[if_pos h];split<;>trivial
  rw[if_neg h];subst E;exact⟨(K3 m h).1,⟨by show (-1:Int)<=(i:Int);omega,by show (i:Int)<=1000;omega,.inl rfl⟩⟩
 rw[if_pos C];refine⟨P0,⟨by show (-1:Int)<=(i:Int);omega,by show (i:Int)<=1000;omega,?_⟩⟩;rcases m with e|⟨_,K⟩|⟨e,_⟩|⟨e,_⟩
 ·exact .inl e
 ·exact .inr K
 ·omega
 omega
end
section
variable {F:List Aq}{T:List (List UInt8×Nat)}{f:Aq}{i:Nat}{lab:Int}{ss:List (List UInt8)}
structure Dv (T:List (List UInt8×Nat))(ss:List (List UInt8)):Prop where
 len:ss.length=T.length
 val:∀ (i:Nat) (x:List UInt8×Nat) (t:List UInt8),T[i]?=some x->ss[i]?=some t->Rb x.2 t
def Dv.at (h:Dv T ss)(hi:i<ss.length):∃ x,T[i]?=some x/\Rb x.2 ss[i]:=by
 have:=h.len;have e:T[i]?=some (T[i]'oV):=As5 oV;exact⟨_,e,h.val i _ _ e (As5 hi)⟩
def Agm (ss:List (List UInt8))(f:Aq):Bool:=f.2.1==1&&f.2.2==1&&(ss.getD f.1 []).isEmpty
def Vy (F:List Aq)(lab:Int)(ss:List (List UInt8)):Bool:=!(decide (0<=lab)&&(ss.getD lab.toNat []).isEmpty) && !F.any (Agm ss)
def Api (hF:Ef T F lab)(e:Dv T ss)(d:f∈F):f.1<ss.length:=by
 obtain⟨n,k,h,_⟩:=hF.ok f d;obtain⟨g,_⟩:=Atc.1 h;have:=e.len;omega
def Adn (hF:Ef T F lab)(j:Dv T ss)(e:F[i]?=some f):(E4 F lab ss)[f.1]?=some (Jr i f (ss.getD f.1 [])):=by
 have h:=Ato e;have g:=Api hF j h;obtain⟨n,k,_,_,d⟩:=hF.ok f h;rw[Ib (w:=ss[f.1]) (As5 g),Xm hF.nodup e d];simp[As7,As5 g]
def Ai4 {l:Nat}(d:lab=(l:Int))(h:l<ss.length):(E4 F lab ss)[l]?=some (Rp (ss.getD l [])):=by
 rw[Ib (w:=ss[l]) (As5 h)];unfold Ge;rw[if_pos d.symm];simp[As7,As5 h]
def Zh (hF:Ef T F lab)(P:Dv T ss)(U:-1<=lab)(L:∀ l:Nat,lab=(l:Int)->l<ss.length):Vy F lab ss=true↔none∉E4 F lab ss:=by
 unfold Vy;simp only[Atj,Avs,Az0,decide_eq_false_iff_not,Int.not_le];constructor
 ·rintro⟨a,b⟩ hm;obtain⟨i,hi,v⟩:=Avy hm;have d:(E4 F lab ss)[i]?=some none:=by rw[As5 hi,v]
  have m:i<ss.length:=by rw[Gl]at hi;exact hi
  rw[Ib (w:=ss[i]) (As5 m)]at d;simp only[Atd]at d;by_cases g:(i:Int)=lab
  ·unfold Ge Rp at d;rw[if_pos g]at d;split at d
   ·rename_i he;rcases a with a|a
    ·omega
    rw[<-g]at a;simp[As7,As5 m,he]at a
   cases d
  rcases Gj (F:=F) (w:=ss[i]) g with e|⟨j,f,g1,g2,K⟩
  ·rw[e]at d;cases d
  rw[K]at d;unfold Jr at d;split at d
  ·cases d
  rename_i k2;split at d
  ·rename_i he;split at d
   ·rename_i k3;have t:=Ato g1;obtain⟨n,k,_,O,_⟩:=hF.ok f t;have Q:f.2.1=1:=by rcases O with ⟨h,_⟩|⟨h,_⟩;exact h;exact absurd h k2
    have:Agm ss f=true:=by
     unfold Agm;rw[g2];simp[Q,k3,As7,As5 m,he]
    have E:=Azp.1 b f t;rw[this]at E;exact absurd rfl E
   cases d
  cases d
 intro H;constructor
 ·rcases A2k (lab<0) with h|h
  ·exact .inl h
  right;obtain⟨l,z⟩:∃ l:Nat,lab=(l:Int):=⟨lab.toNat,oV⟩;have C:=L l z;have:=Ai4 (F:=F) z C;rw[z,Avo];cases he:ss.getD l [] with
  |cons x y=>rfl
  |nil =>
   rw[he]at this;exact absurd (Ato this) (by simpa[Rp] using H)
 rw[Azp];intro f N u;obtain⟨i,hi,rfl⟩:=Avy N;have:=Adn hF P (As5 hi);unfold Agm at u;simp only[Atj,beq_iff_eq,List.isEmpty_iff]at u;obtain⟨⟨R,I⟩,J⟩:=u;rw[J]at this;refine H ?_;have e:Jr i F[i] []=none:=by unfold Jr;rw[if_neg oV,if_pos rfl,if_pos I]
 rw[e]at this;exact Ato this
noncomputable def cfT (F:List Aq)(lab:Int)(ss:List (List UInt8)):CF:=G4 (CF.num 1) (E4 F lab ss)
def Ak7 (hF:Ef T F lab)(j:Dv T ss)(e:-1<=lab)(g:∀ l:Nat,lab=(l:Int)->l<ss.length)(d:Vy F lab ss=false):cfT F lab ss=CF.num 0:=by
 refine Agz ?_;rcases A2k (none∈E4 F lab ss) with h|h
 ·exact h
 rw[(Zh hF j e g).2 h]at d;cases d
def Agg (hF:Ef T F lab)(h:Dv T ss)(d:-1<=lab)(e:∀ l:Nat,lab=(l:Int)->l<ss.length)(g:Vy F lab ss=true):(cfT F lab ss).One :=
 Uf CF.One.num ((Zh hF h d e).1 g)
def Aqy (hF:Ef T F lab)(m:Dv T ss)(d:-1<=lab)(e:∀ l:Nat,lab=(l:Int)->l<ss.length)(j:Vy F lab ss=true){a:Nat}{p:Par}{q:Rat}(h:(E4 F lab ss)[a]?=some (some (some (p,q)))):(cfT F lab ss).s p=q :=
 Aof CF.One.num ((Zh hF m d e).1 j) rfl h fun b n g=>Aix d h g
def Mj {u:PH}{R:List Ch}(ok:By u T R F lab)(d:Dv T ss):∀ x∈E4 F lab ss,x.Small:=fun x h=>by
 obtain⟨i,hi,rfl⟩:=Avy h;rw[Gl]at hi;have e:=Ib (F:=F) (lab:=lab) (w:=ss[i]) (As5 hi);rw[As5 (by rw[Gl];exact hi),Atd]at e;rw[e];obtain⟨y,j,g⟩:=d.at hi;exact Adt ok.feat ok.l2 ok.f2 j g
end
section
variable {i:Nat}
structure Ahw (u:PH)(v tv:Value)(T:List (List UInt8×Nat))(R:List Ch)(F:List Aq)(lab:Int)(ss:List (List UInt8)):Prop where
 sch:In u v T R F lab
 ok:By u T R F lab
 lst:Ad u tv 1 (ss.map nmV)
 fit:Dv T ss
def Ahw.mono {u j:PH}{v g:Value}{T:List (List UInt8×Nat)}{R:List Ch}{F:List Aq}{lab:Int}{e:List (List UInt8)}(h:Ahw u v g T R F lab e)(d:PH.le u j):Ahw j v g T R F lab e :=
 ⟨h.sch.mono d,h.ok.mono d,h.lst.mono d,h.fit⟩
def Afd {u:PH}{a:Option Addr}{n c:Nat}{d:List (List UInt8)}(h:Ad u (.slice a n c) 1 (d.map nmV))(hi:i<d.length):∃ b off,a=some ⟨b,off,none⟩/\ElP u b (off+i*1) (.string (mkS (d.getD i []))):=by
 have e:d.getD i []=d[i]:=by simp[As7,As5 hi]
 rw[e];exact Ad.at' h (j:=i) (by simp[nmV,As5 hi])
def As3 (h:i<=8):1374926400^i<10^100:=Aum (Atq oV h) jV
def Ar9 (h:i<8):8*(1374926400^i*343731600)<10^100:=by
 have d:1374926400^i<=1374926400^8:=Atq oV oV;have e:1374926400^8<10^80:=jV
 have g:(10:Nat)^80*100000000000<10^100:=jV
 omega
end
section
variable {F:List Aq}{R:List Ch}{T:List (List UInt8×Nat)}{a:Option Addr}{c k n:Nat}{l:List Nat}{m m0 u:PH}
def nmA (j:Nat):List UInt8:=[97]++[Vq j]
def nmR (j:Nat):List UInt8:=[114]++[Vq j]
def Aru (h:n<=6):Oy ((List.range n).map nmA):=by
 have d:∀ n:Fin 7,(((List.range n.val).map nmA).all Hl&&decide ((List.range n.val).map nmA).Nodup)=true:=jV
 exact Acd (d ⟨n,oV⟩)
def Aqg (h:n<=6):Oy ((List.range n).map nmR):=by
 have d:∀ n:Fin 7,(((List.range n.val).map nmR).all Hl&&decide ((List.range n.val).map nmR).Nodup)=true:=jV
 exact Acd (d ⟨n,oV⟩)
structure TOK (T:List (List UInt8×Nat)):Prop where
 nm:T.map (·.1)=(List.range T.length).map nmA
 kd:∀ a∈T,1<=a.2/\a.2<=3
 le:T.length<=6
def TOK.nil:TOK []:=⟨rfl,fun a d=>by simp at d,mV⟩
def TOK.snoc (h:TOK T)(d:1<=k)(g:k<=3)(t:T.length<6):TOK (T++[(nmA T.length,k)]):=by
 refine⟨?_,fun a j=>?_,gV⟩
 ·rw[Atk,h.nm,Atg,Aux,Ayh,Atk];rfl
 rcases Ati.1 j with e|e
 ·exact h.kd a e
 obtain rfl:=Aub.1 e;exact⟨d,g⟩
structure TOM (N:Nat)(T:List (List UInt8×Nat)):Prop extends TOK T where
 lem:T.length<=N
def TOM.nil (N:Nat):TOM N []:=⟨TOK.nil,Atu _⟩
def TOM.snocm {N:Nat}(h:TOM N T)(d:1<=k)(e:k<=3)(j:T.length<N)(g:N<=6):TOM N (T++[(nmA T.length,k)]) :=
 ⟨h.toTOK.snoc d e oV,by rw[Atg,Aux];omega⟩
def TOK.att (h:TOK T):Alv T:=⟨by rw[h.nm];exact Aru h.le,h.kd⟩
structure LOK (l:List Nat)(n:Nat):Prop where
 asc:l.Pairwise (· < ·)
 lt:∀ a∈l,a<n
 len:l.length<=n
def LOK.nil:LOK [] 0:=⟨List.Pairwise.nil,fun a d=>by simp at d,mV⟩
def LOK.up (h:LOK l n):LOK l (n+1):=⟨h.asc,fun a d=>by have:=h.lt a d;omega,by have:=h.len;omega⟩
def LOK.snoc (h:LOK l n):LOK (l++[n]) (n+1):=by
 refine⟨Av8.2 ⟨h.asc,Azh _ _,fun a d b g=>?_⟩,fun a d=>?_,by simp;have:=h.len;omega⟩
 ·obtain rfl:=Aub.1 g;exact h.lt a d
 rcases Ati.1 d with e|e
 ·have:=h.lt a e;omega
 obtain rfl:=Aub.1 e;omega
def LOK.zero (h:0<n):LOK [0] n:=⟨Azh _ _,fun a d=>by
 obtain rfl:=Aub.1 d;exact h,gV⟩
structure ROK (u:PH)(n:Nat)(R:List Ch):Prop where
 nm:R.map (·.1)=(List.range R.length).map nmR
 ne:∀ r∈R,r.2.1≠[]
 ok:∀ r∈R,LOK r.2.1 n
 all:∀ a<n,∃ r∈R,a∈r.2.1
 at':∀ r∈R,Ad u (.slice r.2.2.1 r.2.1.length r.2.2.2) 1 (Ah r.2.1)
def ROK.nil :ROK u 0 []:=⟨rfl,fun a d=>by simp at d,fun a d=>by simp at d,fun a d=>oV,fun a d=>by simp at d⟩
def ROK.mono {u d:PH}{n:Nat}{R:List Ch}(h:ROK u n R)(e:PH.le u d):ROK d n R:=⟨h.nm,h.ne,h.ok,h.all,fun r g=>(h.at' r g).mono e⟩
def ROK.snoc {n j:Nat}(h:ROK u n R)(H:n<=j)(C:LOK l j)(z:l≠[])(g:∀ a,n<=a->a<j->a∈l)(v:Ad u (.slice a l.length c) 1 (Ah l)):ROK u j (R++[(nmR R.length,l,(a,c))]):=by
 refine⟨?_,fun r d=>?_,fun r d=>?_,fun a t=>?_,fun r d=>?_⟩
 ·rw[Atk,h.nm,Atg,Aux,Ayh,Atk];rfl
 ·rcases Ati.1 d with e|e
  ·exact h.ne r e
  obtain rfl:=Aub.1 e;exact z
 ·rcases Ati.1 d with e|e
  ·have:=h.ok r e;exact⟨this.asc,fun a t=>by have:=this.lt a t;omega,by have:=this.len;omega⟩
  obtain rfl:=Aub.1 e;exact C
 ·rcases At8 a n with e|e
  ·obtain⟨r,d,E⟩:=h.all a e;exact⟨r,Avn _ d,E⟩
  exact⟨_,A1s _ (Aub.2 rfl),g a e t⟩
 rcases Ati.1 d with e|e
 ·exact h.at' r e
 obtain rfl:=Aub.1 e;exact v
def ROK.rel (h:ROK u n R)(z:n<=6)(j:R.length<=6):Nj u n R:=by
 refine⟨by rw[h.nm];exact Aqg j,h.ne,fun r d=>(h.ok r d).lt,fun r d=>by have:=(h.ok r d).len;omega,fun r d k x y t v=>?_,h.all,h.at'⟩;obtain⟨e,rfl⟩:=Atc.1 t;obtain⟨g,rfl⟩:=Atc.1 v;exact Avr.1 (h.ok r d).asc k (k+1) e g oV
structure FOK (T:List (List UInt8×Nat))(F:List Aq)(lab:Int)(a:Nat):Prop where
 feat:Ef T F lab
 lt:∀ f∈F,f.1<a
 len:F.length<=a
 l1:-1<=lab
 l2:∀ l:Nat,lab=(l:Int)->l<a/\∃ n,T[l]?=some (n,2)
def FOK.nil :FOK T [] (-1) 0:=⟨⟨fun f d=>by simp at d,mV⟩,fun f d=>by simp at d,mV,oV,fun l e=>oV⟩
def FOK.skip {lab:Int}{a:Nat}(h:FOK T F lab a):FOK T F lab (a+1):=⟨h.feat,fun f e=>by have:=h.lt f e;omega,by have:=h.len;omega,h.l1,fun l g=>by
 obtain⟨j,d⟩:=h.l2 l g;exact⟨oV,d⟩⟩
def FOK.lab {lab:Int}{a:Nat}{n:List UInt8}(h:FOK T F lab a)(j:T[a]?=some (n,2)):FOK T F (a:Int) (a+1):=by
 refine⟨⟨fun f d=>?_,h.feat.nodup⟩,fun f d=>by have:=h.lt f d;omega,by have:=h.len;omega,oV,fun l v=>?_⟩
 ·obtain⟨n,k,e,g,t⟩:=h.feat.ok f d;exact⟨n,k,e,g,by have:=h.lt f d;omega⟩
 obtain rfl:l=a:=oV;exact⟨oV,n,j⟩
def FOK.put {lab:Int}{a k:Nat}{n:List UInt8}{g:Nat×Nat}(h:FOK T F lab a)(t:T[a]?=some (n,k))(v:(g.1=1/\k=2/\g.2<=1)\/(g.1=2/\k=3/\g.2=0)):FOK T (F++[(a,g)]) lab (a+1):=by
 refine⟨⟨fun f d=>?_,?_⟩,fun f d=>?_,by simp;have:=h.len;omega,h.l1,fun l z=>?_⟩
 ·rcases Ati.1 d with e|e
  ·exact h.feat.ok f e
  obtain rfl:=Aub.1 e;refine⟨n,k,t,v,fun e=>?_⟩;have:=(h.l2 a e.symm).1;omega
 ·rw[Atk];refine Awq.2 ⟨h.feat.nodup,mV,fun x C y E=>?_⟩;obtain⟨f,d,rfl⟩:=Ate.1 C;have:=h.lt f d;simp at E;omega
 ·rcases Ati.1 d with e|e
  ·have:=h.lt f e;omega
  obtain rfl:=Aub.1 e;show a<a+1;omega
 obtain⟨H,j⟩:=h.l2 l z;exact⟨oV,j⟩
def Aq0 {lab:Int}(hT:TOK T)(g:ROK u T.length R)(hF:FOK T F lab T.length)(h0:0<T.length)(e:0<R.length)(d:R.length<=6):By u T R F lab :=
 ⟨hT.att,g.rel hT.le d,hF.feat,h0,by have:=hT.le;omega,e,d,by have:=hF.len;have:=hT.le;omega,hF.l1,fun l h=>(hF.l2 l h).2⟩
def Xx (a:Option Addr)(c:Nat)(T:List (List UInt8×Nat)):Arr:=⟨.slice a T.length c,77,2,T.map Ej⟩
def Vw (a:Option Addr)(c:Nat)(R:List Ch):Arr:=⟨.slice a R.length c,155,2,R.map Gs⟩
def Tn (a:Option Addr)(c:Nat)(F:List Aq):Arr:=⟨.slice a F.length c,82,3,F.map Ce⟩
def Aad (a:Option Addr)(c:Nat)(l:List Nat):Arr:=⟨.slice a l.length c,3,1,Ah l⟩
def Ano :(Xx a c T).At m0 m=Ae m0 m (.slice a T.length c) 77 2 (T.map Ej):=rfl
def Afa :(Vw a c R).At m0 m=Ae m0 m (.slice a R.length c) 155 2 (R.map Gs):=rfl
def Xt :(Tn a c F).At m0 m=Ae m0 m (.slice a F.length c) 82 3 (F.map Ce):=rfl
def Yd :(Aad a c l).At m0 m=Ae m0 m (.slice a l.length c) 3 1 (Ah l):=rfl
def Aga (x:List UInt8×Nat):Ax 2 [Ej x]:=by
 intro e d;simp at d;subst d;exact⟨rfl,fun y g=>by simp[Ej,Value.cells]at g;rcases g with rfl|rfl<;>rfl⟩
def O2 (x:Ch):Ax 2 [Gs x]:=by
 intro e d;simp at d;subst d;exact⟨rfl,fun y g=>by simp[Gs,Value.cells]at g;rcases g with rfl|rfl<;>rfl⟩
def Ii (x:Aq):Ax 3 [Ce x]:=by
 intro e d;simp at d;subst d;exact⟨rfl,fun y g=>by simp[Ce,Value.cells]at g;rcases g with rfl|rfl|rfl<;>rfl⟩
end
section
variable {A T:List Nat}{i x:Nat}{listed:Array Bool}{o:Oper}{s0:S}
variable [Ca] [Df]
section
variable {P:Program} {id:Nat} {ops:Array Oper} {dr:Bool} {Fin:S->PH->PH->Prop} {c:Cx} {Q:Exit->Act->World->Prop}
def Ob.append {l2:List Nat}:∀ {d:List Nat} {s:S} {u m:PH},Ob P id ops dr (fun s u m=>Ob P id ops dr Fin l2 s u m) d s u m->Ob P id ops dr Fin (d++l2) s u m
 |[],s,u,m,h=>by
  cases h with
  |nil h=>exact h
 |i::d,s,u,m,h=>by
  cases h with
  |auto ho hg hd he hl=>exact .auto ho hg hd he hl.append
  |skip ho hg hd hl=>exact .skip ho hg hd hl.append
  |ask ho hg hd hv hs hal hw hl=>exact .ask ho hg hd hv hs hal hw hl.append
  |big ho hg hd hv hs hf hk hw hl=>exact .big ho hg hd hv hs hf hk hw fun v n j e g=>(hl v n j e g).append
def Ob.fin {d:S->PH->PH->Prop}(e:∀ s u m,Fin s u m->d s u m):∀ {l:List Nat} {s:S} {u m:PH},Ob P id ops dr Fin l s u m->Ob P id ops dr d l s u m
 |[],s,u,m,h=>by
  cases h with
  |nil h=>exact .nil (e _ _ _ h)
 |i::l1,s,u,m,h=>by
  cases h with
  |auto ho hg hd he hl=>exact .auto ho hg hd he (hl.fin e)
  |skip ho hg hd hl=>exact .skip ho hg hd (hl.fin e)
  |ask ho hg hd hv hs hal hw hl=>exact .ask ho hg hd hv hs hal hw (hl.fin e)
  |big ho hg hd hv hs hf' hk hw hl=>exact .big ho hg hd hv hs hf' hk hw fun v t n g j=>(hl v t n g j).fin e
structure Lm (ops:Array Oper)(listed:Array Bool)(T:List Nat):Prop where
 sz:listed.size=ops.size
 mem:∀ i,i<ops.size->(listed.getD i true=false↔i∈T)
 lt:∀ i∈T,i<ops.size
 nd:T.Nodup
 cl:Adc ops listed
theorem Wl :i∈Region.ready .any ops listed↔i<ops.size/\listed.getD i true=false/\∃ o,ops[i]?=some o/\∀ e∈o.after,Region.binds .any e=true->listed.getD e.on false=true:=by
 simp only[Region.ready,Axo,Axf,Atj,Avs];refine and_congr_right fun hi=>and_congr_right fun _=>?_;have d:ops[i]?=some ops[i]:=Aup hi;rw[d];simp only[Awh,Awo,A15];constructor
 ·grind
 grind
theorem Lm.no (h:Lm ops listed T)(g:x∈T):listed.getD x false=true->False:=by
 intro d;have e:=h.lt x g;have:=(h.mem x e).2 g;have j:x<listed.size:=by grind
 simp only[Aus,Aup j,Awo]at d this;rw[this]at d;cases d
theorem Lm.next {A B:List Nat}(h:Lm ops listed (A++i::B))(N:ops[i]?=some o)(I:∀ e∈o.after,Region.binds .any e=true->listed.getD e.on false=true):Lm ops (listed.setIfInBounds i true) (A++B):=by
 obtain⟨F,hT,v,L,z⟩:=h;have n:(A++B).Nodup/\i∉A++B:=by grind
 refine⟨by simpa using F,fun j g=>?_,fun j g=>v j ?_,n.1,?_⟩
 ·by_cases d:j=i
  ·simp_all
  have:=hT j g;simp only[Aus,Avk (fun h=>d h.symm)]at this⊢;rw[this];simp[d]
 ·grind
 intro j g o' E e K J;have t:∀ k,listed.getD k false=true->(listed.setIfInBounds i true).getD k false=true:=by
  intro k H;by_cases C:k=i
  ·grind
  simp only[Aus,Avk (fun h=>C h.symm)]at H⊢;exact H
 by_cases d:j=i
 ·grind
 refine t _ (z j ?_ o' E e K J);simp only[Aus,Avk (fun h=>d h.symm)]at g⊢;exact g
def Lm.swaps (h:Lm ops listed T)(v:∀ x∈A,x∈T)(C:ops[i]?=some o)(n:∀ e∈o.after,Region.binds .any e=true->listed.getD e.on false=true)(z:∀ x∈A,He ops s0 x i=true):∀ x∈A,Zn ops s0 x i=true:=by
 intro x t;have hp:=z x t;unfold He at hp;simp only[Atj,Av7]at hp;have j:∀ o',ops[i]?=some o'->∀ e∈o'.after,Region.binds .any e=true->listed.getD e.on false=true:=fun o' g=>by rw[C]at g;obtain rfl:=Auq g;exact n
 rcases hp.2 with (d|d)|d
 ·exact (h.no (v x t) (Tq j d)).elim
 ·exact d
 exact (h.no (v x t) (K8 h.cl ops.size i j d)).elim
def Lm.any {s0:S}(d:M3 s0)(g:(List.range ops.size).all (Kw ops)=true)(hF:∀ s u m ρ a w,Fin s u m->Rel c s u m ρ a w->Q .normal a w){n:Nat}{T:List Nat}{listed:Array Bool}{s:S}{u m:PH}{ρ:Nat->Nat}{a:Act}{w:World}(h:Lm ops listed T)(v:T.length=n)
 (t:T.Pairwise (fun x y=>He ops s0 x y=true)) (e:F1 ops s0 s) (j:Ob P id ops true Fin T s u m) (z:Rel c s u m ρ a w):Go.wpAny P .any ops Q n listed a w :=
 Ob.wpAny d g hF n T listed v h.sz h.mem h.lt h.nd h.cl t e j z
def Lm.perm {T T':List Nat}(h:Lm ops listed T)(hp:T.Perm T'):Lm ops listed T' :=
 ⟨h.sz,fun i hi=>(h.mem i hi).trans hp.mem_iff,fun i hi=>h.lt i (hp.mem_iff.2 hi),hp.nodup_iff.1 h.nd,h.cl⟩
theorem Lm.first {t:Nat}(h:Lm ops listed (t::T))(n:(List.range ops.size).all (Kw ops)=true)(H:∀ x∈T,dir ops t x=false):t∈Region.ready .any ops listed:=by
 have hp:=h.lt t mV;refine Wl.2 ⟨hp,(h.mem t hp).2 mV,ops[t],Aup hp,fun e C v=>?_⟩;rw[Atx]at n;have d:=n t (by simpa using hp);unfold Kw at d;rw[Aup hp]at d;simp only[Atx]at d;have:=d e (by simpa using C);simp only[v,Ayc,Azw,Atj]at this;have g:e.on<ops.size:=A0v▸this.1;have F:e.on≠t:=fun h=>by rw[h]at this;simp at this
 have z:dir ops t e.on=true:=by
  unfold dir;rw[Aup hp];simp only[Ax1,Atj];exact⟨e,by simpa using C,v,mV⟩
 cases hl:listed.getD e.on true with
 |true =>
  have E:e.on<listed.size:=by have:=h.sz;omega
  simp only[Aus,Aup E]at hl⊢;exact hl
 |false =>
  have j:=(h.mem e.on g).1 hl;rcases At6.1 j with j|j
  ·grind
  grind
def Ke {x y:Nat}(h:He ops s0 x y=true):dir ops x y=false:=by
 unfold He at h;simp only[Atj,Avs]at h;exact h.1.1
theorem Ob.wpAny2 (F:M3 s0)(hE:(List.range ops.size).all (Kw ops)=true)(hF:∀ s u m ρ a w,Fin s u m->Rel c s u m ρ a w->Q .normal a w){p q:Nat}{d:List Nat}(R:∀ y∈d,bef ops ops.size y p=true)(a0:dir ops p q=false) :
 ∀ (n:Nat) (j:List Nat) (listed:Array Bool) {s:S} {u m:PH} {ρ:Nat->Nat} {a:Act} {w:World},j.length+(d.length+2)=n->Lm ops listed (j++p::q::d) ->
  (j++p::d).Pairwise (fun x y=>He ops s0 x y=true)->(j++q::d).Pairwise (fun x y=>He ops s0 x y=true)->F1 ops s0 s ->
  Ob P id ops true (fun s u m=>Ob P id ops true Fin (p::q::d) s u m/\Ob P id ops true Fin (q::p::d) s u m) j s u m->Rel c s u m ρ a w->Go.wpAny P .any ops Q n listed a w:=by
 intro n;induction n with
 |zero=>intro j listed s u m ρ a w K;omega
 |succ n ih =>
  intro j listed s u m ρ a w K e C N E hO U;refine⟨fun L=>?_,fun i hi=>?_⟩
  ·exfalso;cases j with
   |nil =>
    have:=e.first hE fun x z=>by
     rcases At6.1 z with rfl|z
     ·exact a0
     exact Ke (Awl C z)
    rw[L]at this;cases this
   |cons t T' =>
    have:=Lm.first (t:=t) (T:=T'++p::q::d) e hE fun x z=>by
     simp only[Ati,At6]at z;rcases z with z|rfl|rfl|z
     ·exact Ke (Awl C (by simp[z]))
     ·exact Ke (Awl C mV)
     ·exact Ke (Awl N mV)
     exact Ke (Awl C (by simp[z]))
    rw[L]at this;cases this
  obtain⟨h1,h2,o,O,v⟩:=Wl.1 hi;have J:=(e.mem i h1).1 h2;simp only[Ati,At6]at J;rcases J with J|J|J|J
  ·obtain⟨A,B,rfl⟩:=Ay9 J;have g:Lm ops listed (A++i::(B++p::q::d)):=by grind
   have V:(A++i::(B++p::d)).Pairwise (fun x y=>He ops s0 x y=true):=by grind
   have I:=g.swaps (A:=A) (s0:=s0) (fun x z=>by simp[z]) O v fun x z=>(Av8.1 V).2.2 x z i mV;have H:=Ob.bubble F A I U.lv E hO;refine wpOp_mono (fun a' w' ⟨s',u',m',ρ',X,Z,Y⟩=>?_) (H.step (Q:=Q) U);refine ih (A++B) _ (by simp at K⊢;omega) (by rw[Au1];exact g.next O v) ?_ ?_ (E.trans Z) Y X
   ·grind
   grind
  ·subst J;have I:=e.swaps (A:=j) (s0:=s0) (fun x z=>by simp[z]) O v fun x z=>(Av8.1 C).2.2 x z i mV;have H:=Ob.bubble F j I U.lv E (Ob.append (l2:=i::q::d) (hO.fin fun s u m h=>h.1));refine wpOp_mono (fun a' w' ⟨s',u',m',ρ',X,Z,Y⟩=>?_) (H.step (Q:=Q) U);exact (e.next O v).any F hE hF gV N (E.trans Z) Y X
  ·subst J;have g:Lm ops listed (j++i::p::d):=e.perm ((List.Perm.swap i p d).append_left j);have I:=g.swaps (A:=j) (s0:=s0) (fun x z=>by simp[z]) O v fun x z=>(Av8.1 N).2.2 x z i mV;have H:=Ob.bubble F j I U.lv E (Ob.append (l2:=i::p::d) (hO.fin fun s u m h=>h.2));refine wpOp_mono (fun a' w' ⟨s',u',m',ρ',X,Z,Y⟩=>?_) (H.step (Q:=Q) U);exact (g.next O v).any F hE hF gV C (E.trans Z) Y X
  exfalso;exact e.no (x:=p) mV (K8 e.cl ops.size i (fun o' W=>by rw[O]at W;obtain rfl:=Auq W;exact v) (R i J))
def U0 (P:Program)(id:Nat)(ops:Array Oper):List Nat->S->Option S
 |[],s=>some s
 |i::l,s=>match ops[i]? with
  |some o=>match Gi s o with
   |true=>match gv s ops o with
    |some true=>match eff P (id*1000+i) s o.op with
     |some (x,hw)=>U0 P id ops l ((s.put o.dst x).setb hw)
     |none=>none
    |some false=>U0 P id ops l (s.put o.dst (.v undef))
    |none=>none
   |false=>none
  |none=>none
def Ob.autos:∀ {l:List Nat} {s d:S} {u m:PH},U0 P id ops l s=some d->Fin d u m->Ob P id ops dr Fin l s u m
 |[],s,d,u,m,h,hf=>by
  unfold U0 at h;cases h;exact .nil hf
 |i::l,s,d,u,m,h,hf=>by
  unfold U0 at h;split at h
  ·rename_i o ho;split at h
   ·rename_i hd;split at h
    ·rename_i hg;split at h
     ·rename_i x hw he;exact .auto ho hg hd he (Ob.autos h hf)
     cases h
    ·rename_i hg;exact .skip ho hg hd (Ob.autos h hf)
    cases h
   cases h
  cases h
def Akt (ops:Array Oper)(s:S)(pre:List Nat)(p q:Nat)(post:List Nat):Bool :=
 Nat.beq (pre.length+(post.length+2)) ops.size&&(List.range ops.size).all (fun i=>(pre++p::q::post).contains i)&&(pre++p::q::post).all (fun i=>Nat.blt i ops.size)&&Qo ops s (pre++p::post)&&Qo ops s (pre++q::post) &&
  (List.range ops.size).all (Kw ops)&&post.all (fun y=>bef ops ops.size y p) && !dir ops p q && !Nat.beq p q
end
section
variable {P:Program} {fn:Func} {Post:Bz}
def Mh {ops:Array Oper}{s:S}(h:T.Pairwise (fun x y=>He ops s x y=true)):T.Nodup:=by
 refine h.imp fun {x y} hxy e=>?_;unfold He at hxy;subst e;simp at hxy
theorem Sym.reg_two (U:P.follows .mixedOrders=true){id:Nat}{ops:Array Oper}{g d:List Nat}{p q:Nat}{s:S}(t:Akt ops s g p q d=true){k:List KI}{u m:PH}
 (h:Ob P id ops true (fun s u m=>Ob P id ops true (Vs P fn Post k) (p::q::d) s u m/\Ob P id ops true (Vs P fn Post k) (q::p::d) s u m) g s u m):Vs P fn Post (.code (.region id ops true)::k) s u m:=by
 intro c ρ a w v j;unfold Akt at t;simp only[Atj,Avs]at t;obtain⟨⟨⟨⟨⟨⟨⟨⟨n,I⟩,E⟩,J⟩,K⟩,L⟩,F⟩,N⟩,H⟩:=t;have n:=Aug n;rw[Atx]at I E F;have z:=Hg J;have C:=Hg K;have W:=Mh z;have X:=Mh C;have V:p≠q:=fun e=>by rw[e]at H;simp at H
 refine wp_region_any U ?_;refine Ob.wpAny2 (c:=c) j.lv L (fun s u m ρ a w O j=>O c ρ a w v j) F N _ g _ n ⟨mV,fun i hi=>?_,fun i hi=>A0v▸E i hi,?_,fun i hi=>?_⟩ z C (F1.refl _ _) h j.drew
 ·simp_all
 ·grind
 simp only[Aus]at hi;by_cases R:i<ops.size
 ·grind
 grind
def Apn (P:Program)(pre:List Nat)(p q:Nat)(post:List Nat)(st:List KI×S):Bool:=match st with
 |(.code (.region id ops true)::k,s)=>Akt ops s pre p q post&&(U0 P id ops pre s).isSome
 |_=>false
def Age (P:Program)(pre l:List Nat)(st:List KI×S):List KI×S:=match st with
 |(.code (.region id ops true)::k,s)=>match U0 P id ops pre s with
  |some s'=>(.reg id ops true l::k,s')
  |none=>st
 |_=>st
end
section rules
variable {P:Program} [A7 P] {fn:Func} {Post:Bz} {st:List KI×S} {u m:PH}
def G.both (g:List Nat)(p q:Nat)(d:List Nat)(h:Apn P g p q d (adv P st)=true)(n:G P fn Post (Age P g (p::q::d) (adv P st)) u m)(t:G P fn Post (Age P g (q::p::d) (adv P st)) u m):G P fn Post st u m:=by
 refine G.stp ⟨?_⟩;generalize adv P st=st' at h n t;unfold Apn at h;split at h
 ·rename_i id ops k s;rw[Atj]at h;obtain⟨v,z⟩:=h;obtain⟨C,j⟩:=Azd.1 z;have e:∀ l,Age P g l (.code (.region id ops true)::k,s)=(.reg id ops true l::k,C):=fun l=>by unfold Age;simp only[j]
  rw[e]at n t;exact Sym.reg_two A7.mx v (Ob.autos j ⟨n.out,t.out⟩)
 cases h
end rules
end
def ElP.sub {u:PH}{b off:Nat}{e x:Value}{k:Nat}(h:ElP u b off e)(j:∀ i y,x.cells[i]?=some y->e.cells[k+i]?=some y):ElP u b (off+k) x:=fun i y m=>by
 obtain⟨cs,t,fr,d,g⟩:=h (k+i) y (j i y m);exact⟨cs,t,fr,d,by rw[Avl];exact g⟩
section
variable {b sz:Nat}{es:List Value}{m m0:PH}{o:Obj}{t:TypeId}{v:Value}
def Ae.base (h:Ae m0 m v t sz es)(F:m0 b≠none):Ae (m0.upd b o) (m.upd b o) v t sz es:=by
 obtain⟨u,h⟩:=h;rcases h with ⟨j,n,rfl⟩|⟨g,cap,rest,j,rfl,n,z,C,E⟩
 ·exact⟨u,.inl ⟨j,n,rfl⟩⟩
 have d:g≠b:=fun e=>by subst e;exact F j
 exact⟨u,.inr ⟨g,cap,rest,by rw[Ac _ _ d];exact j,Jb _ _ _ d,n,z,C,E⟩⟩
def Ae.see (h:Ae m0 m v t sz es)(d:m0 b=some o):m b=some o:=h.le b o d
end
section
variable {l:Nat}{m:PH}{o:Obj}
def Anv {l b:Nat}(h:b≠l):(m.upd b o).del l=(m.del l).upd b o:=by
 funext k
 by_cases e:k=l
 ·subst e;rw[Ac _ _ (fun d=>h d.symm)];simp[PH.del]
 by_cases d:k=b
 ·subst d;rw[Ab];simp[PH.del,e,Ab]
 rw[Ac _ _ d];simp[PH.del,e,Ac _ _ d]
def Yz (h:m l=none):(m.upd l o).del l=m:=by
 funext k
 by_cases e:k=l
 ·subst e;simp[PH.del,h]
 simp[PH.del,e,Ac _ _ e]
def Arm (m:PH)(l:Nat):PH.le (m.del l) m:=fun g o h=>by
 unfold PH.del at h;split at h
 ·cases h
 exact h
def Ae.del {m0 m:PH}{v:Value}{t:TypeId}{sz:Nat}{es:List Value}{l:Nat}(h:Ae m0 m v t sz es)(F:m0 l≠none):Ae (m0.del l) (m.del l) v t sz es:=by
 obtain⟨u,h⟩:=h;rcases h with ⟨j,n,rfl⟩|⟨g,cap,rest,j,rfl,n,z,C,E⟩
 ·exact⟨u,.inl ⟨j,n,rfl⟩⟩
 have d:g≠l:=fun e=>by subst e;exact F j
 exact⟨u,.inr ⟨g,cap,rest,by unfold PH.del;rw[if_neg d];exact j,Anv d,n,z,C,E⟩⟩
end
section
def Ae.fresh {m0 m:PH}{v:Value}{t:TypeId}{sz:Nat}{es:List Value}{b:Nat}{o:Obj}(h:Ae m0 m v t sz es)(z:m b=none):Ae (m0.upd b o) (m.upd b o) v t sz es:=by
 obtain⟨C,h⟩:=h;rcases h with ⟨j,n,rfl⟩|⟨g,cap,rest,j,rfl,n,E,F,H⟩
 ·exact⟨C,.inl ⟨j,n,rfl⟩⟩
 have d:g≠b:=fun e=>by subst e;rw[Ab]at z;cases z
 exact⟨C,.inr ⟨g,cap,rest,by rw[Ac _ _ d];exact j,Jb _ _ _ d,n,E,F,H⟩⟩
section
variable {P:Program} [A7 P] {fn:Func} {Post:Bz} {st:List KI×S} {u m:PH}
def G.appendL (e:TypeId)(sz g:Nat)(z:Value)(m0:PH)(es xs:List Value)(v:Value)(a:Option Addr)(n c:Nat)(h:Al P (adv P st)=.app (some (e,sz,g,z)) true [v,.slice a n c])(R:z.cells.toList.all Bh=true)(H:z.cells.size=sz)(E:0<sz)
 (t:Ae m0 m v e sz es) (F:Ad u (.slice a n c) sz xs) (Q:Ax sz xs) (O:(es.length+xs.length)*g<=140737488355328) (C:es.length+xs.length<=9223372036854775807)
 (k:∀ J I,Ae m0 I J e sz (es++xs)->G P fn Post (nx (adv P st) J) u I):G P fn Post st u m:=by
 have d:n=xs.length:=by obtain⟨_,_,N,_⟩:=F;cases N;rfl
 cases xs with
 |nil =>
  simp only[Av1]at d;subst d;obtain⟨K,L,rfl⟩:=t.shape;refine G.append0 e sz g z K a es.length L c h t.cap ?_;exact k _ _ (by rw[Auu];exact t)
 |cons x xs =>
  obtain⟨b,off,rfl,_⟩:=Ad.at' F (j:=0) (e:=x) rfl;subst d;exact G.append e sz g z m0 es (x::xs) v b off _ c h R H E t F.els Q rfl mV O C k
end
def Ak4 {κ:Type}{l:List κ}(h:l.Nodup){i j:Nat}{x:κ}(v:l[i]?=some x)(z:l[j]?=some x):i=j:=by
 obtain⟨d,g⟩:=Atc.1 v;obtain⟨n,t⟩:=Atc.1 z;rcases Axu i j with e|e|e
 ·exact absurd (g.trans t.symm) (Avr.1 h i j d n e)
 ·exact e
 exact absurd (t.trans g.symm) (Avr.1 h j i n d e)
end
section
variable {N:Nat}{k:Par×Par}{q:Rat}
def Apy (T:TypeId):Op->Bool
 |.indexAddr t _ _=>Nat.beq t T
 |_=>false
section
variable {P:Program} [A7 P] {fn:Func} {Post:Bz} {st:List KI×S} {u m:PH}
def G.addrA (t e:TypeId)(n b off j sz:Nat)(h:Al P (adv P st)=.addr none (.pointer (some ⟨b,off,none⟩)) (.int .i64 j))(L:V6 (Apy t) (adv P st)=true)(R:P.underlying t=some (.array n e))(O:szB P e=some sz)(V:j<n)
 (k:G P fn Post (nx (adv P st) (.pointer (some ⟨b,off+j*sz,none⟩))) u m):G P fn Post st u m:=by
 refine G.askQ (Apy t) h L mV (fun K o d C w _=>?_) k;obtain⟨W,X,I,v,H,J,_⟩:=Xr d;rw[v]at C;have Q:=Aug C;subst Q;obtain⟨F,T,E,pos,g,z⟩:=o;simp only at v;subst v;simp[execOp,Instr.indexAt,Instr.sureAddr,asIntOf,H,J,run_underlying R,Be O,Dt];intro U;omega
end
def Ae1 {m:PH}{b:Nat}{t:TypeId}(h:m b=some (.cells [Value.int .i64 k.1.1,.string (mkS k.1.2),.int .i64 k.2.1,.string (mkS k.2.2)].toArray t (0,0))):ElP m b (0+0*2) (A3 k.1)/\ElP m b (0+1*2) (A3 k.2):=by
 have h0:ElP m b 0 (.agg #[.int .i64 k.1.1,.string (mkS k.1.2),.int .i64 k.2.1,.string (mkS k.2.2)]):=Akn h rfl;refine⟨h0.sub (k:=0) fun i y d=>?_,h0.sub (k:=2) fun i y d=>?_⟩
 ·match i,d with
  |0,d=>simpa[A3,Value.cells] using d
  |1,d=>simpa[A3,Value.cells] using d
 match i,d with
 |0,d=>simpa[A3,Value.cells] using d
 |1,d=>simpa[A3,Value.cells] using d
def SB.ten (h:SB q):Sz q 10000000000:=h.sz.mono oV
def KO.fix (h:KO k):A5 k.1 k.2=k:=by unfold A5;rw[if_neg h]
def Dh.at {κ:Type}[DecidableEq κ]{enc:κ->Value}{K:κ->Prop}{u:PH}{o:Obj}{f:κ->Rat}(h:Dh enc K u o f N) :
 ∃ l:List (κ×Value),Eo enc o l/\(∀ p∈l,QP u p.2 (f p.1)/\K p.1)/\(∀ k,k∉l.map (·.1)->f k=0)/\l.length<=N:=by
 obtain⟨l,e,d,g,j⟩:=h;exact⟨l,e,fun p hp=>⟨(d p hp).1,(d p hp).2.1⟩,g,j⟩
def Aj4 {u mf:PH}{F H:CF}{N M:Nat}{vf vg vk:Value}(hf:Ip mf u vf F N)(hg:Oo u vg H M)(hk:QP u vk q)(hq:SB q)(sF:CFS F)(sH:CFS H)(sK:CFS (H.scale q))(sR:CFS (F.add (H.scale q))) :
 Aj prog 32 [vf,vg,vk] u mf fun v u' m'=>Ip m' u' v (F.add (H.scale q)) (N+M):=by
 obtain⟨b,a,n,c,b',a',n',c',g1,g2,o1,o2,rfl,hF,a9,rfl,h1,h2⟩:=hf;obtain⟨wb,wa,wn,wc,ay,ax,b0,az,w1,w2,p1,p2,rfl,hH,e1,e2,k1,k2⟩:=hg;obtain⟨kb,ka,kn,kc,ar,av,au,rfl,_⟩:=hk.opn;obtain⟨l1,⟨V,j,rfl,ac,Z⟩,b8,bb,bs⟩:=k1.at;obtain⟨l2,⟨W,d,rfl,ad,a0⟩,b9,bc,bt⟩:=k2.at;have ap:(l1.map (·.1)).Nodup:=Eo.nodup (enc:=A3) ⟨V,j,rfl,ac,Z⟩;have aq:(l2.map (·.1)).Nodup:=Eo.nodup (enc:=prV) ⟨W,d,rfl,ad,a0⟩;refine Aj.o func32<|G.c call80 (Gz hH hk (SB.ten sH.c) hq.ten) ?_;intro v1 u1 aw r1;obtain⟨b1,a1,x1,c1,bn,bv,bo,rfl,_⟩:=r1.opn;refine G.c call16 (Mt (hF.mono aw) r1 (SB.ten sF.c) (SB.ten sK.c)) ?_;intro v2 u2 be r2;obtain⟨b2,a2,x2,c2,T,a6,U,rfl,_⟩:=r2.opn;have a3:=aw.trans be;obtain⟨m2,ba,ag,ah⟩:∃ m2:PH,m2=(PH.mt.upd g1 o1).upd g2 o2/\m2 g1=some o1/\m2 g2=some o2:=⟨_,rfl,by rw[Ac _ _ a9,Ab],Ab _ _ _⟩;rw[<-ba];refine G.mapRange w1 V j 110 57 kV (.inl (a3 _ _ e1)) ?_;intro it am br;have i1:g1≠it:=fun e=>by subst e;rw[am]at ag;cases ag
 have i2:g2≠it:=fun e=>by subst e;rw[am]at ah;cases ah
 refine G.l (ι:=List MapEntry×List (Par×Value)) (fun _=>[(3,.p 0 0),(4,.p 1 0),(5,.p 2 0),(6,.p 3 0),(21,.v (.pointer (some ⟨it,0,none⟩)))])
  (fun _=>[(0,⟨92,[bV b2,sV a2 x2 c2,bV false,sV T a6 U,.v (.map (some g1)),.v (.map (some g2))]⟩),(1,⟨92,[bV wb,sV wa wn wc,bV ay,sV ax b0 az,.v (.map (some w1)),.v (.map (some w2))]⟩),(2,⟨57,[bV kb,sV ka kn kc,bV false,sV ar av au]⟩),(3,⟨92,[bV false,sV none 0 0,bV false,sV none 0 0,.v (.map none),.v (.map none)]⟩)])
  (fun i u' m'=>E9 A3 V l1 i.1 i.2/\m' it=some (.mapIter (some w1) j (Ar i.1) j)/\m' g2=some o2/\∃ E,m' g1=some E/\Dh A3 KT u' E (Dw F.s H.s q (i.2.map (·.1))) (N+i.2.length))
  (fun i=>l1.length-i.2.length) ([],[])
  ⟨E9.nil _ _,Ab _ _ _,by rw[Ac _ _ i2];exact ah,o1,by rw[Ac _ _ i1];exact ag,by
   have:Dw F.s H.s q (([]:List (Par×Value)).map (·.1))=F.s:=by funext k;simp[Dw]
   dsimp only;rw[this];exact h1.mono a3⟩ ?_
 rintro J ⟨D,L⟩ hJ u3 m3 ai ⟨hS,an,z,E,Y,hR⟩;simp only at hS an z Y hR hJ;have h:=a3.trans ai;refine G.mapNextL Dq.inj it w1 V j l1 D L kV kV an (.inl (h _ _ e1)) Z ac ap hS ?done1 ?next1
 case next1 =>
  rintro⟨k,xv⟩ e hp hkn he hek hev hS';simp only at hkn hek hev;have hx:=(b8 _ hp).1;simp only at hx;obtain⟨yb,ya,yn,yc,bi,bk,bj,rfl,_⟩:=hx.opn;refine G.mapEntry it w1 V j D e kV (Ab _ _ _) (.inl (h _ _ e1)) Z he ?_;rw[hek,hev];refine G.c call80 (Gz (hx.mono h) (hk.mono h) (SB.ten (sH.s k)) hq.ten) ?_;intro v4 u4 a5 r4;obtain⟨b4,a4,x4,c4,b3,bh,b5,rfl,_⟩:=r4.opn;refine G.callG _ _ kV kV call81 (g:=g1) (o:=E) (by rw[Ac _ _ i1];exact Y)
   (Mf (g2:=some g2) (y1:=b2) (y2:=(a2,x2,c2)) (y3:=false) (y4:=(T,a6,U)) (hR.mono a5) r4 (sK.s k) (Mp sF.s sR.s k) (by
    have:Dw F.s H.s q (L.map (·.1)) k=F.s k:=by unfold Dw;rw[if_neg hkn]
    rw[this,Awz];exact sR.s k)) ?_
  intro v5 u5 o5 aj r5;rw[Hy _ _ _ hkn]at r5;refine G.b (hJ (D++[e],L++[(k,_)]) _ _ _ cV ((ai.trans a5).trans aj)
   ⟨hS',by rw[Ac _ _ (Ne.symm i1),Ab],by rw[Ac _ _ (Ne.symm a9),Ac _ _ i2];exact z,o5,Ab _ _ _,by
    simpa[Avl] using r5⟩ (by have:=hS'.len;simp at this;dsimp only;simp;omega))
 case done1 =>
 intro al;have b6:Dw F.s H.s q (L.map (·.1))=(F.add (H.scale q)).s:=J8 _ _ _ fun k hk=>bb k fun hm=>hk (by
  obtain⟨p,hp,rfl⟩:=Ate.1 hm;exact Ate.2 ⟨p,al p hp,rfl⟩)
 rw[b6]at hR;have bp:=hS.len;refine G.mapRange w2 W d 162 57 kV (.inl (h _ _ e2)) ?_;intro C aa bm;have j1:g1≠C:=fun e=>by subst e;rw[aa]at Y;cases Y
 have j2:g2≠C:=fun e=>by subst e;rw[aa]at z;cases z
 refine G.l (ι:=List MapEntry×List ((Par×Par)×Value)) (fun _=>[(3,.p 0 0),(4,.p 1 0),(5,.p 2 0),(6,.p 3 0),(35,.v (.pointer (some ⟨C,0,none⟩)))])
  (fun _=>[(0,⟨92,[bV b2,sV a2 x2 c2,bV false,sV T a6 U,.v (.map (some g1)),.v (.map (some g2))]⟩),(1,⟨92,[bV wb,sV wa wn wc,bV ay,sV ax b0 az,.v (.map (some w1)),.v (.map (some w2))]⟩),(2,⟨57,[bV kb,sV ka kn kc,bV false,sV ar av au]⟩),(3,⟨92,[bV false,sV none 0 0,bV false,sV none 0 0,.v (.map none),.v (.map none)]⟩)])
  (fun i u' m'=>E9 prV W l2 i.1 i.2/\m' C=some (.mapIter (some w2) d (Ar i.1) d)/\m' g1=some E/\∃ R,m' g2=some R/\Dh prV KO u' R (Dw F.t H.t q (i.2.map (·.1))) (N+i.2.length))
  (fun i=>l2.length-i.2.length) ([],[])
  ⟨E9.nil _ _,Ab _ _ _,by rw[Ac _ _ j1];exact Y,o2,by rw[Ac _ _ j2];exact z,by
   have:Dw F.t H.t q (([]:List ((Par×Par)×Value)).map (·.1))=F.t:=by funext k;simp[Dw]
   dsimp only;rw[this];exact h2.mono h⟩ ?_
 rintro J2 ⟨D2,L2⟩ ak u6 m6 a8 ⟨ae,ab,K,R,I,a7⟩;simp only at ae ab K I a7 ak;have O:=h.trans a8;refine G.mapNextL Hj.inj C w2 W d l2 D2 L2 kV kV ab (.inl (O _ _ e2)) a0 ad aq ae ?done2 ?next2
 case next2 =>
  rintro⟨k,xv⟩ e hp hkn he hek hev hS';simp only at hkn hek hev;obtain⟨hx,ao⟩:=b9 _ hp;simp only at hx ao;have X:=ao.fix;obtain⟨yb,ya,yn,yc,bi,bk,bj,rfl,_⟩:=hx.opn;refine G.mapEntry C w2 W d D2 e kV (Ab _ _ _) (.inl (O _ _ e2)) a0 he ?_;rw[hek,hev];refine G.pub 8003 162 [.int .i64 k.1.1,.string (mkS k.1.2),.int .i64 k.2.1,.string (mkS k.2.2)] kV kV ?_;intro bq bu Q;have q1:g1≠bq:=fun e=>by subst e;rw[Ac _ _ j1,K]at Q;cases Q
  have q2:g2≠bq:=fun e=>by subst e;rw[Ac _ _ j2,I]at Q;cases Q
  have q3:C≠bq:=fun e=>by subst e;rw[Ab]at Q;cases Q
  obtain⟨bf,bg⟩:=Ae1 (m:=(m6.upd C (.mapIter (some w2) d (Ar (D2++[e])) d)).upd bq (.cells [Value.int .i64 k.1.1,.string (mkS k.1.2),.int .i64 k.2.1,.string (mkS k.2.2)].toArray 162 (0,0))) (Ab _ _ _);refine G.addrA 162 110 2 bq 0 0 2 kV kV kV kV oV<|G.lM (some 2) bq (0+0*2) (.agg #[.int .i64 k.1.1,.string (mkS k.1.2)]) bf<|G.addrA 162 110 2 bq 0 1 2 kV kV kV kV oV<|G.lM (some 2) bq (0+1*2) (.agg #[.int .i64 k.2.1,.string (mkS k.2.2)]) bg<|G.c call80 (Gz (hx.mono O) (hk.mono O) (SB.ten (sH.t k)) hq.ten) ?_;intro v4 u4 a5 r4;obtain⟨b4,a4,x4,c4,b3,bh,b5,rfl,_⟩:=r4.opn;refine G.callG _ _ kV kV call82 (g:=g2) (o:=R) (by rw[Ac _ _ q2,Ac _ _ j2];exact I)
   (Gr (g1:=some g1) (y1:=b2) (y2:=(a2,x2,c2)) (y3:=false) (y4:=(T,a6,U)) (p:=k.1) (r:=k.2) (a7.mono a5) r4 (sK.t k) (by rw[X];exact Mp sF.t sR.t k) (by
    have:Dw F.t H.t q (L2.map (·.1)) k=F.t k:=by unfold Dw;rw[if_neg hkn]
    rw[X,this,Awz];exact sR.t k)) ?_
  intro v5 u5 o5 aj r5;rw[X,Hy _ _ _ hkn]at r5;refine G.b (ak (D2++[e],L2++[(k,_)]) _ _ _ cV ((a8.trans a5).trans aj)
   ⟨hS',by rw[Ac _ _ (Ne.symm j2),Ac _ _ q3,Ab],by rw[Ac _ _ a9,Ac _ _ q1,Ac _ _ j1];exact K,o5,Ab _ _ _,by
    simpa[Avl] using r5⟩ (by have:=hS'.len;simp at this;dsimp only;simp;omega))
 case done2 =>
 intro af;have b7:Dw F.t H.t q (L2.map (·.1))=(F.add (H.scale q)).t:=J8 _ _ _ fun k hk=>bc k fun hm=>hk (by
  obtain⟨p,hp,rfl⟩:=Ate.1 hm;exact Ate.2 ⟨p,af p hp,rfl⟩)
 rw[b7]at a7;have bl:=ae.len;refine G.drop ((PH.mt.upd g1 E).upd g2 R) kV (fun g o hg=>by
  by_cases e:g=g2
  ·subst e;rw[Ab]at hg;cases hg;exact I
  rw[Ac _ _ e]at hg;by_cases e:g=g1
  ·subst e;rw[Ab]at hg;cases hg;exact K
  rw[Ac _ _ e]at hg;cases hg) ?_
 exact G.r (.agg #[.bool b2,.slice a2 x2 c2,.bool false,.slice T a6 U,.map (some g1),.map (some g2)]) ⟨_,_,_,_,_,_,_,_,g1,g2,E,R,rfl,r2.mono (ai.trans a8),a9,rfl,(hR.mono a8).up oV,a7.up oV⟩
end
theorem Ak1 {u:PH}{F H:CF}{N M:Nat}{v w:Value}(hv:Oo u v F N)(hw:Oo u w H M)(ok:Apr F H) :
 Aj prog 83 [v,w] u PH.mt fun v' u' T=>Ip T u' v' (F.mul H) (M+N+N*M):=by
 obtain⟨vb,va,vn,vc,ay,ax,b0,az,v1,v2,q1,q2,rfl,cw,f1,f2,s1,s2⟩:=id hv;obtain⟨wb,wa,wn,wc,b3,b1,b6,b5,w1,w2,p1,p2,rfl,cx,e1,e2,t1,t2⟩:=id hw;obtain⟨lv,⟨a8,O,rfl,cs,bh⟩,da,di,ez⟩:=s1.at;obtain⟨lw,⟨aa,U,rfl,ct,bj⟩,dc,dk,e6⟩:=t1.at;obtain⟨kv,⟨b7,ac,rfl,ca,bi⟩,db,dj,eo⟩:=s2.at;obtain⟨kw,⟨b8,ad,rfl,cc,bk⟩,dd,dl,ep⟩:=t2.at;have cd:(lv.map (·.1)).Nodup:=Eo.nodup (enc:=A3) ⟨a8,O,rfl,cs,bh⟩;have ce:(lw.map (·.1)).Nodup:=Eo.nodup (enc:=A3) ⟨aa,U,rfl,ct,bj⟩;have cu:(kv.map (·.1)).Nodup:=Eo.nodup (enc:=prV) ⟨b7,ac,rfl,ca,bi⟩;have cv:(kw.map (·.1)).Nodup:=Eo.nodup (enc:=prV) ⟨b8,ad,rfl,cc,bk⟩;refine Aj.o func83<|G.callO _ _ kV call30 (H2 (n:=0) oV oV) ?_;rintro v3 u3 m3 l3 ⟨b,a,n,c,b',a',n',c',g1,g2,o1,o2,rfl,_,aj,rfl,h1,h2⟩ _;rw[C3];refine G.c call80 (Gz (cw.mono l3) (cx.mono l3) (SB.ten ok.a.c) (SB.ten ok.b.c)) ?_;intro v5 u5 l5 r5;obtain⟨b2,a2,x2,c2,E,K,I,rfl,_⟩:=r5.opn;have d2:=l3.trans l5;obtain⟨m5,e5,cq,cr⟩:∃ m5:PH,m5=(PH.mt.upd g1 o1).upd g2 o2/\m5 g1=some o1/\m5 g2=some o2:=⟨_,rfl,by rw[Ac _ _ aj,Ab],Ab _ _ _⟩;rw[<-e5];have an:CFS (F.scale H.c):=ok.d;have d8:CFS (H.scale F.c):=ok.c;have cg:∀ k,SB ((F.scale H.c).s k+H.s k*F.c):=fun k=>by rw[Awz];exact ok.e.s k
 have bg:∀ k,SB ((F.scale H.c).t k+H.t k*F.c):=fun k=>by rw[Awz];exact ok.e.t k
 have dg:∀ k:Par,SB ((fun _:Par=>(0:Rat)) k+F.s k*H.c):=fun k=>by show SB (0+F.s k*H.c);rw[Ax8];exact an.s k
 have dh:∀ k:Par×Par,SB ((fun _:Par×Par=>(0:Rat)) k+F.t k*H.c):=fun k=>by show SB (0+F.t k*H.c);rw[Ax8];exact an.t k
 have dy:Dh A3 KT u5 o1 (fun _=>0) 0:=h1.mono l5;have du:Dh prV KO u5 o2 (fun _=>0) 0:=h2.mono l5;have f0:=d2;refine G.mapRange v1 a8 O 110 57 kV (.inl (d2 _ _ f1)) ?_;intro ao c5 ei;have cy:g1≠ao:=fun e=>by subst e;rw[c5]at cq;cases cq
 have dm:g2≠ao:=fun e=>by subst e;rw[c5]at cr;cases cr
 refine G.l (ι:=List MapEntry×List ((Par)×Value)) (fun _=>[(2,.p 0 0),(3,.p 1 0),(4,.p 2 0),(5,.p 1001 0),(28,.v (.pointer (some ⟨ao,0,none⟩)))])
  (fun _=>[(0,⟨92,[bV vb,sV va vn vc,bV ay,sV ax b0 az,.v (.map (some v1)),.v (.map (some v2))]⟩),(1,⟨92,[bV wb,sV wa wn wc,bV b3,sV b1 b6 b5,.v (.map (some w1)),.v (.map (some w2))]⟩),(2,⟨92,[bV false,sV none 0 0,bV false,sV none 0 0,.v (.map none),.v (.map none)]⟩),(1001,⟨92,[bV b2,sV a2 x2 c2,bV false,sV E K I,.v (.map (some g1)),.v (.map (some g2))]⟩)])
  (fun i u' T=>E9 A3 a8 lv i.1 i.2/\T ao=some (.mapIter (some v1) O (Ar i.1) O)/\T g2=some o2/\∃ oo,T g1=some oo/\Dh A3 KT u' oo (Dw (fun _=>0) F.s H.c (i.2.map (·.1))) (0+i.2.length))
  (fun i=>lv.length-i.2.length) ([],[])
  ⟨E9.nil _ _,Ab _ _ _,by rw[Ac _ _ dm];exact cr,_,by rw[Ac _ _ cy];exact cq,by
   have:Dw (fun _=>0) F.s H.c (([]:List ((Par)×Value)).map (·.1))=(fun _=>0):=by funext k;simp[Dw]
   dsimp only;rw[this];exact dy⟩ ?_
 rintro JA ⟨D,LA⟩ ck uA mA lA ⟨V,C,Y,oA,af,ba⟩;simp only at V C Y af ba ck;have aq:=d2.trans lA;refine G.mapNextL Dq.inj ao v1 a8 O lv D LA kV kV C (.inl (aq _ _ f1)) bh cs cd V ?doneA ?nextA
 case nextA =>
  rintro⟨k,xv⟩ e hp hkn he hek hev hS';simp only at hkn hek hev;obtain⟨hx,ab⟩:=da _ hp;simp only at hx ab;obtain⟨yb,ya,yn,yc,bl,bn,bm,rfl,_⟩:=hx.opn;refine G.mapEntry ao v1 a8 O D e kV (Ab _ _ _) (.inl (aq _ _ f1)) bh he ?_;rw[hek,hev];refine G.c call80 (Gz (hx.mono aq) (cx.mono aq) (SB.ten (ok.a.s k)) (SB.ten ok.b.c)) ?_;intro v4 u4 a0 r4;obtain⟨b4,a4,x4,c4,ci,d5,cj,rfl,_⟩:=r4.opn;refine G.callG _ _ kV kV call81 (g:=g1) (o:=oA) (by rw[Ac _ _ cy];exact af)
   (Mf (g2:=some g2) (y1:=b2) (y2:=(a2,x2,c2)) (y3:=false) (y4:=(E,K,I)) (ba.mono a0) r4 (an.s k) (Mp (fun _=>SB.zero) dg k) (by
    have:Dw (fun _=>0) F.s H.c (LA.map (·.1)) k=(fun _=>0) k:=by unfold Dw;rw[if_neg hkn]
    rw[this,Awz];exact dg k)) ?_
  intro v5 u5 o5 a1 a3;rw[Hy _ _ _ hkn]at a3;refine G.b (ck (D++[e],LA++[(k,_)]) _ _ _ cV ((lA.trans a0).trans a1)
   ⟨hS',by rw[Ac _ _ (Ne.symm cy),Ab],by rw[Ac _ _ (Ne.symm aj),Ac _ _ dm];exact Y,o5,Ab _ _ _,by
    simpa[Avl] using a3⟩ (by have:=hS'.len;simp at this;dsimp only;simp;omega))
 case doneA =>
 intro z;rw[J8 _ _ _ fun k hk=>di k fun hm=>hk (by
  obtain⟨p,hp,rfl⟩:=Ate.1 hm;exact Ate.2 ⟨p,z p hp,rfl⟩)]at ba
 have ed:=V.len;have dz:=ba.congr (f':=(F.scale H.c).s) (fun k=>by show 0+F.s k*H.c=F.s k*H.c;rw[Ax8]);have dv:=du.mono lA;clear ck V C z ba;refine G.mapRange w1 aa U 110 57 kV (.inl (aq _ _ e1)) ?_;intro ap c6 ej;have cz:g1≠ap:=fun e=>by subst e;rw[c6]at af;cases af
 have dp:g2≠ap:=fun e=>by subst e;rw[c6]at Y;cases Y
 refine G.l (ι:=List MapEntry×List ((Par)×Value)) (fun _=>[(2,.p 0 0),(3,.p 1 0),(4,.p 2 0),(5,.p 1001 0),(43,.v (.pointer (some ⟨ap,0,none⟩)))])
  (fun _=>[(0,⟨92,[bV vb,sV va vn vc,bV ay,sV ax b0 az,.v (.map (some v1)),.v (.map (some v2))]⟩),(1,⟨92,[bV wb,sV wa wn wc,bV b3,sV b1 b6 b5,.v (.map (some w1)),.v (.map (some w2))]⟩),(2,⟨92,[bV false,sV none 0 0,bV false,sV none 0 0,.v (.map none),.v (.map none)]⟩),(1001,⟨92,[bV b2,sV a2 x2 c2,bV false,sV E K I,.v (.map (some g1)),.v (.map (some g2))]⟩)])
  (fun i u' T=>E9 A3 aa lw i.1 i.2/\T ap=some (.mapIter (some w1) U (Ar i.1) U)/\T g2=some o2/\∃ oo,T g1=some oo/\Dh A3 KT u' oo (Dw (F.scale H.c).s H.s F.c (i.2.map (·.1))) (0+LA.length+i.2.length))
  (fun i=>lw.length-i.2.length) ([],[])
  ⟨E9.nil _ _,Ab _ _ _,by rw[Ac _ _ dp];exact Y,_,by rw[Ac _ _ cz];exact af,by
   have:Dw (F.scale H.c).s H.s F.c (([]:List ((Par)×Value)).map (·.1))=(F.scale H.c).s:=by funext k;simp[Dw]
   dsimp only;rw[this];exact dz⟩ ?_
 rintro JB ⟨D,LB⟩ cl uB mB lB ⟨V,C,Z,oB,ag,bb⟩;simp only at V C Z ag bb cl;have ar:=aq.trans lB;refine G.mapNextL Dq.inj ap w1 aa U lw D LB kV kV C (.inl (ar _ _ e1)) bj ct ce V ?doneB ?nextB
 case nextB =>
  rintro⟨k,xv⟩ e hp hkn he hek hev hS';simp only at hkn hek hev;obtain⟨hx,ab⟩:=dc _ hp;simp only at hx ab;obtain⟨yb,ya,yn,yc,bl,bn,bm,rfl,_⟩:=hx.opn;refine G.mapEntry ap w1 aa U D e kV (Ab _ _ _) (.inl (ar _ _ e1)) bj he ?_;rw[hek,hev];refine G.c call80 (Gz (hx.mono ar) (cw.mono ar) (SB.ten (ok.b.s k)) (SB.ten ok.a.c)) ?_;intro v4 u4 a0 r4;obtain⟨b4,a4,x4,c4,ci,d5,cj,rfl,_⟩:=r4.opn;refine G.callG _ _ kV kV call81 (g:=g1) (o:=oB) (by rw[Ac _ _ cz];exact ag)
   (Mf (g2:=some g2) (y1:=b2) (y2:=(a2,x2,c2)) (y3:=false) (y4:=(E,K,I)) (bb.mono a0) r4 (d8.s k) (Mp an.s cg k) (by
    have:Dw (F.scale H.c).s H.s F.c (LB.map (·.1)) k=(F.scale H.c).s k:=by unfold Dw;rw[if_neg hkn]
    rw[this,Awz];exact cg k)) ?_
  intro v5 u5 o5 a1 a3;rw[Hy _ _ _ hkn]at a3;refine G.b (cl (D++[e],LB++[(k,_)]) _ _ _ cV ((lB.trans a0).trans a1)
   ⟨hS',by rw[Ac _ _ (Ne.symm cz),Ab],by rw[Ac _ _ (Ne.symm aj),Ac _ _ dp];exact Z,o5,Ab _ _ _,by
    simpa[Avl] using a3⟩ (by have:=hS'.len;simp at this;dsimp only;simp;omega))
 case doneB =>
 intro z;rw[J8 _ _ _ fun k hk=>dk k fun hm=>hk (by
  obtain⟨p,hp,rfl⟩:=Ate.1 hm;exact Ate.2 ⟨p,z p hp,rfl⟩)]at bb
 have ee:=V.len;have e0:=bb.congr (f':=(F.mul H).s) (fun k=>by show F.s k*H.c+H.s k*F.c=H.s k*F.c+F.s k*H.c;rw[Awz]);have dw:=dv.mono lB;clear cl V C z bb;refine G.mapRange v2 b7 ac 162 57 kV (.inl (ar _ _ f2)) ?_;intro ah c7 ek;have d0:g1≠ah:=fun e=>by subst e;rw[c7]at ag;cases ag
 have bt:g2≠ah:=fun e=>by subst e;rw[c7]at Z;cases Z
 refine G.l (ι:=List MapEntry×List ((Par×Par)×Value)) (fun _=>[(2,.p 0 0),(3,.p 1 0),(4,.p 2 0),(5,.p 1001 0),(58,.v (.pointer (some ⟨ah,0,none⟩)))])
  (fun _=>[(0,⟨92,[bV vb,sV va vn vc,bV ay,sV ax b0 az,.v (.map (some v1)),.v (.map (some v2))]⟩),(1,⟨92,[bV wb,sV wa wn wc,bV b3,sV b1 b6 b5,.v (.map (some w1)),.v (.map (some w2))]⟩),(2,⟨92,[bV false,sV none 0 0,bV false,sV none 0 0,.v (.map none),.v (.map none)]⟩),(1001,⟨92,[bV b2,sV a2 x2 c2,bV false,sV E K I,.v (.map (some g1)),.v (.map (some g2))]⟩)])
  (fun i u' T=>E9 prV b7 kv i.1 i.2/\T ah=some (.mapIter (some v2) ac (Ar i.1) ac)/\T g1=some oB/\∃ oo,T g2=some oo/\Dh prV KO u' oo (Dw (fun _=>0) F.t H.c (i.2.map (·.1))) (0+i.2.length))
  (fun i=>kv.length-i.2.length) ([],[])
  ⟨E9.nil _ _,Ab _ _ _,by rw[Ac _ _ d0];exact ag,_,by rw[Ac _ _ bt];exact Z,by
   have:Dw (fun _=>0) F.t H.c (([]:List ((Par×Par)×Value)).map (·.1))=(fun _=>0):=by funext k;simp[Dw]
   dsimp only;rw[this];exact dw⟩ ?_
 rintro JC ⟨D,LC⟩ cm uC mC lC ⟨V,C,P,oC,a6,bc⟩;simp only at V C P a6 bc cm;have au:=ar.trans lC;refine G.mapNextL Hj.inj ah v2 b7 ac kv D LC kV kV C (.inl (au _ _ f2)) bi ca cu V ?doneC ?nextC
 case nextC =>
  rintro⟨k,xv⟩ e hp hkn he hek hev hS';simp only at hkn hek hev;obtain⟨hx,ab⟩:=db _ hp;simp only at hx ab;obtain⟨yb,ya,yn,yc,bl,bn,bm,rfl,_⟩:=hx.opn;refine G.mapEntry ah v2 b7 ac D e kV (Ab _ _ _) (.inl (au _ _ f2)) bi he ?_;rw[hek,hev];have X:=ab.fix;refine G.pub 13003 162 [.int .i64 k.1.1,.string (mkS k.1.2),.int .i64 k.2.1,.string (mkS k.2.2)] kV kV ?_;intro bq e7 R;have q1:g1≠bq:=fun e=>by subst e;rw[Ac _ _ d0,P]at R;cases R
  have q2:g2≠bq:=fun e=>by subst e;rw[Ac _ _ bt,a6]at R;cases R
  have q3:ah≠bq:=fun e=>by subst e;rw[Ab]at R;cases R
  obtain⟨d3,d4⟩:=Ae1 (m:=(mC.upd ah (.mapIter (some v2) ac (Ar (D++[e])) ac)).upd bq (.cells [Value.int .i64 k.1.1,.string (mkS k.1.2),.int .i64 k.2.1,.string (mkS k.2.2)].toArray 162 (0,0))) (Ab _ _ _);refine G.addrA 162 110 2 bq 0 0 2 kV kV kV kV oV<|G.lM (some 2) bq (0+0*2) (.agg #[.int .i64 k.1.1,.string (mkS k.1.2)]) d3<|G.addrA 162 110 2 bq 0 1 2 kV kV kV kV oV<|G.lM (some 2) bq (0+1*2) (.agg #[.int .i64 k.2.1,.string (mkS k.2.2)]) d4<|G.c call80 (Gz (hx.mono au) (cx.mono au) (SB.ten (ok.a.t k)) (SB.ten ok.b.c)) ?_;intro v4 u4 a0 r4;obtain⟨b4,a4,x4,c4,ci,d5,cj,rfl,_⟩:=r4.opn;refine G.callG _ _ kV kV call82 (g:=g2) (o:=oC) (by rw[Ac _ _ q2,Ac _ _ bt];exact a6)
   (Gr (g1:=some g1) (y1:=b2) (y2:=(a2,x2,c2)) (y3:=false) (y4:=(E,K,I)) (p:=k.1) (r:=k.2) (bc.mono a0) r4 (an.t k) (by rw[X];exact Mp (fun _=>SB.zero) dh k) (by
    have:Dw (fun _=>0) F.t H.c (LC.map (·.1)) k=(fun _=>0) k:=by unfold Dw;rw[if_neg hkn]
    rw[X,this,Awz];exact dh k)) ?_
  intro v5 u5 o5 a1 a3;rw[X,Hy _ _ _ hkn]at a3;refine G.b (cm (D++[e],LC++[(k,_)]) _ _ _ cV ((lC.trans a0).trans a1)
   ⟨hS',by rw[Ac _ _ (Ne.symm bt),Ac _ _ q3,Ab],by rw[Ac _ _ aj,Ac _ _ q1,Ac _ _ d0];exact P,o5,Ab _ _ _,by
    simpa[Avl] using a3⟩ (by have:=hS'.len;simp at this;dsimp only;simp;omega))
 case doneC =>
 intro z;rw[J8 _ _ _ fun k hk=>dj k fun hm=>hk (by
  obtain⟨p,hp,rfl⟩:=Ate.1 hm;exact Ate.2 ⟨p,z p hp,rfl⟩)]at bc
 have ef:=V.len;have dx:=bc.congr (f':=(F.scale H.c).t) (fun k=>by show 0+F.t k*H.c=F.t k*H.c;rw[Ax8]);have e3:=e0.mono lC;clear cm V C z bc;refine G.mapRange w2 b8 ad 162 57 kV (.inl (au _ _ e2)) ?_;intro ai c8 em;have d1:g1≠ai:=fun e=>by subst e;rw[c8]at P;cases P
 have bu:g2≠ai:=fun e=>by subst e;rw[c8]at a6;cases a6
 refine G.l (ι:=List MapEntry×List ((Par×Par)×Value)) (fun _=>[(2,.p 0 0),(3,.p 1 0),(4,.p 2 0),(5,.p 1001 0),(76,.v (.pointer (some ⟨ai,0,none⟩)))])
  (fun _=>[(0,⟨92,[bV vb,sV va vn vc,bV ay,sV ax b0 az,.v (.map (some v1)),.v (.map (some v2))]⟩),(1,⟨92,[bV wb,sV wa wn wc,bV b3,sV b1 b6 b5,.v (.map (some w1)),.v (.map (some w2))]⟩),(2,⟨92,[bV false,sV none 0 0,bV false,sV none 0 0,.v (.map none),.v (.map none)]⟩),(1001,⟨92,[bV b2,sV a2 x2 c2,bV false,sV E K I,.v (.map (some g1)),.v (.map (some g2))]⟩)])
  (fun i u' T=>E9 prV b8 kw i.1 i.2/\T ai=some (.mapIter (some w2) ad (Ar i.1) ad)/\T g1=some oB/\∃ oo,T g2=some oo/\Dh prV KO u' oo (Dw (F.scale H.c).t H.t F.c (i.2.map (·.1))) (0+LC.length+i.2.length))
  (fun i=>kw.length-i.2.length) ([],[])
  ⟨E9.nil _ _,Ab _ _ _,by rw[Ac _ _ d1];exact P,_,by rw[Ac _ _ bu];exact a6,by
   have:Dw (F.scale H.c).t H.t F.c (([]:List ((Par×Par)×Value)).map (·.1))=(F.scale H.c).t:=by funext k;simp[Dw]
   dsimp only;rw[this];exact dx⟩ ?_
 rintro JD ⟨D,LD⟩ cn uD mD lD ⟨V,C,Q,oD,a7,be⟩;simp only at V C Q a7 be cn;have av:=au.trans lD;refine G.mapNextL Hj.inj ai w2 b8 ad kw D LD kV kV C (.inl (av _ _ e2)) bk cc cv V ?doneD ?nextD
 case nextD =>
  rintro⟨k,xv⟩ e hp hkn he hek hev hS';simp only at hkn hek hev;obtain⟨hx,ab⟩:=dd _ hp;simp only at hx ab;obtain⟨yb,ya,yn,yc,bl,bn,bm,rfl,_⟩:=hx.opn;refine G.mapEntry ai w2 b8 ad D e kV (Ab _ _ _) (.inl (av _ _ e2)) bk he ?_;rw[hek,hev];have X:=ab.fix;refine G.pub 17003 162 [.int .i64 k.1.1,.string (mkS k.1.2),.int .i64 k.2.1,.string (mkS k.2.2)] kV kV ?_;intro bq e7 R;have q1:g1≠bq:=fun e=>by subst e;rw[Ac _ _ d1,Q]at R;cases R
  have q2:g2≠bq:=fun e=>by subst e;rw[Ac _ _ bu,a7]at R;cases R
  have q3:ai≠bq:=fun e=>by subst e;rw[Ab]at R;cases R
  obtain⟨d3,d4⟩:=Ae1 (m:=(mD.upd ai (.mapIter (some w2) ad (Ar (D++[e])) ad)).upd bq (.cells [Value.int .i64 k.1.1,.string (mkS k.1.2),.int .i64 k.2.1,.string (mkS k.2.2)].toArray 162 (0,0))) (Ab _ _ _);refine G.addrA 162 110 2 bq 0 0 2 kV kV kV kV oV<|G.lM (some 2) bq (0+0*2) (.agg #[.int .i64 k.1.1,.string (mkS k.1.2)]) d3<|G.addrA 162 110 2 bq 0 1 2 kV kV kV kV oV<|G.lM (some 2) bq (0+1*2) (.agg #[.int .i64 k.2.1,.string (mkS k.2.2)]) d4<|G.c call80 (Gz (hx.mono av) (cw.mono av) (SB.ten (ok.b.t k)) (SB.ten ok.a.c)) ?_;intro v4 u4 a0 r4;obtain⟨b4,a4,x4,c4,ci,d5,cj,rfl,_⟩:=r4.opn;refine G.callG _ _ kV kV call82 (g:=g2) (o:=oD) (by rw[Ac _ _ q2,Ac _ _ bu];exact a7)
   (Gr (g1:=some g1) (y1:=b2) (y2:=(a2,x2,c2)) (y3:=false) (y4:=(E,K,I)) (p:=k.1) (r:=k.2) (be.mono a0) r4 (d8.t k) (by rw[X];exact Mp an.t bg k) (by
    have:Dw (F.scale H.c).t H.t F.c (LD.map (·.1)) k=(F.scale H.c).t k:=by unfold Dw;rw[if_neg hkn]
    rw[X,this,Awz];exact bg k)) ?_
  intro v5 u5 o5 a1 a3;rw[X,Hy _ _ _ hkn]at a3;refine G.b (cn (D++[e],LD++[(k,_)]) _ _ _ cV ((lD.trans a0).trans a1)
   ⟨hS',by rw[Ac _ _ (Ne.symm bu),Ac _ _ q3,Ab],by rw[Ac _ _ aj,Ac _ _ q1,Ac _ _ d1];exact Q,o5,Ab _ _ _,by
    simpa[Avl] using a3⟩ (by have:=hS'.len;simp at this;dsimp only;simp;omega))
 case doneD =>
 intro z;rw[J8 _ _ _ fun k hk=>dl k fun hm=>hk (by
  obtain⟨p,hp,rfl⟩:=Ate.1 hm;exact Ate.2 ⟨p,z p hp,rfl⟩)]at be
 have eg:=V.len;have d6:=be.congr (f':=((H.scale F.c).add (F.scale H.c)).t) (fun k=>by show F.t k*H.c+H.t k*F.c=H.t k*F.c+F.t k*H.c;rw[Awz]);have e4:=e3.mono lD;clear cn V C z be;obtain⟨base,bf⟩:∃ base:Par×Par->Rat,base=((H.scale F.c).add (F.scale H.c)).t:=⟨_,rfl⟩;have ae:=ok.acc;rw[<-bf]at d6 ae;have ds:=ok.pr;have dr:=ok.con;refine G.mapRange v1 a8 O 110 57 kV (.inl (av _ _ f1)) ?_;intro it d9 ey;have i1:g1≠it:=fun e=>by subst e;rw[d9]at Q;cases Q
 have i2:g2≠it:=fun e=>by subst e;rw[d9]at a7;cases a7
 refine G.l (ι:=List MapEntry×List (Par×Value)) (fun _=>[(2,.p 0 0),(3,.p 1 0),(4,.p 2 0),(5,.p 1001 0),(94,.v (.pointer (some ⟨it,0,none⟩)))])
  (fun _=>[(0,⟨92,[bV vb,sV va vn vc,bV ay,sV ax b0 az,.v (.map (some v1)),.v (.map (some v2))]⟩),(1,⟨92,[bV wb,sV wa wn wc,bV b3,sV b1 b6 b5,.v (.map (some w1)),.v (.map (some w2))]⟩),(2,⟨92,[bV false,sV none 0 0,bV false,sV none 0 0,.v (.map none),.v (.map none)]⟩),(1001,⟨92,[bV b2,sV a2 x2 c2,bV false,sV E K I,.v (.map (some g1)),.v (.map (some g2))]⟩)])
  (fun i u' T=>E9 A3 a8 lv i.1 i.2/\T it=some (.mapIter (some v1) O (Ar i.1) O)/\T g1=some oB/\∃ Ps:List (Par×Par),Ps.Nodup/\(∀ x:Par×Par,x∈Ps↔x.1∈i.2.map (·.1)/\x.2∈lw.map (·.1))/\∃ aw,T g2=some aw/\Dh prV KO u' aw (fun k=>base k+D0 F H Ps k) (0+LC.length+LD.length+i.2.length*lw.length))
  (fun i=>lv.length-i.2.length) ([],[])
  ⟨E9.nil _ _,Ab _ _ _,by rw[Ac _ _ i1];exact Q,[],mV,mV,oD,by rw[Ac _ _ i2];exact a7,(d6.congr fun k=>by simp only[D0];grind).up mV⟩ ?_
 rintro J ⟨D,L⟩ hJ u6 m6 l6 ⟨V,C,am,Ps,d7,co,aw,br,hR⟩;simp only at V C am co br hR hJ;have c0:=av.trans l6;refine G.mapNextL Dq.inj it v1 a8 O lv D L kV kV C (.inl (c0 _ _ f1)) bh cs cd V ?done1 ?next1
 case next1 =>
  rintro⟨p,xv⟩ e hp hpn he hek hev hS';simp only at hpn hek hev;have hx:=(da _ hp).1;simp only at hx;obtain⟨yb,ya,yn,yc,bl,bn,bm,rfl,_⟩:=hx.opn;refine G.mapEntry it v1 a8 O D e kV (Ab _ _ _) (.inl (c0 _ _ f1)) bh he ?_;rw[hek,hev];refine G.mapRange w1 aa U 110 57 kV (.inl (c0 _ _ e1)) ?_;intro ak a5 eh;have j1:g1≠ak:=fun e=>by subst e;rw[Ac _ _ i1,am]at a5;cases a5
  have j2:g2≠ak:=fun e=>by subst e;rw[Ac _ _ i2,br]at a5;cases a5
  have k1:it≠ak:=fun e=>by subst e;rw[Ab]at a5;cases a5
  refine G.l (ι:=List MapEntry×List (Par×Value)) (fun _=>[(2,.p 0 0),(3,.p 1 0),(4,.p 2 0),(5,.p 1001 0),(14,.p 21003 0),(15,.p 21004 0),(94,.v (.pointer (some ⟨it,0,none⟩))),(102,.v (.pointer (some ⟨ak,0,none⟩)))])
   (fun _=>[(0,⟨92,[bV vb,sV va vn vc,bV ay,sV ax b0 az,.v (.map (some v1)),.v (.map (some v2))]⟩),(1,⟨92,[bV wb,sV wa wn wc,bV b3,sV b1 b6 b5,.v (.map (some w1)),.v (.map (some w2))]⟩),(2,⟨92,[bV false,sV none 0 0,bV false,sV none 0 0,.v (.map none),.v (.map none)]⟩),(1001,⟨92,[bV b2,sV a2 x2 c2,bV false,sV E K I,.v (.map (some g1)),.v (.map (some g2))]⟩),(21003,⟨110,[iV p.1,tV p.2]⟩),(21004,⟨57,[bV yb,sV ya yn yc,bV false,sV bl bn bm]⟩)])
   (fun i u' T=>E9 A3 aa lw i.1 i.2/\T ak=some (.mapIter (some w1) U (Ar i.1) U)/\T it=some (.mapIter (some v1) O (Ar (D++[e])) O)/\T g1=some oB/\∃ Qs:List (Par×Par),Qs.Nodup/\(∀ x:Par×Par,x∈Qs↔(x.1∈L.map (·.1)/\x.2∈lw.map (·.1))\/(x.1=p/\x.2∈i.2.map (·.1)))/\∃ oi,T g2=some oi/\Dh prV KO u' oi (fun k=>base k+D0 F H Qs k) (0+LC.length+LD.length+L.length*lw.length+i.2.length))
   (fun i=>lw.length-i.2.length) ([],[])
   ⟨E9.nil _ _,Ab _ _ _,by rw[Ac _ _ k1,Ab],by rw[Ac _ _ j1,Ac _ _ i1];exact am,Ps,d7,by intro x;rw[co];simp,aw,by rw[Ac _ _ j2,Ac _ _ i2];exact br,hR⟩ ?_
  rintro J2 ⟨D2,L2⟩ iJ ui mi bz ⟨iS,ch,bx,bv,Qs,bp,bo,oi,bw,iR⟩;simp only at iS ch bx bv bo bw iR iJ;have c1:=c0.trans bz;refine G.mapNextL Dq.inj ak w1 aa U lw D2 L2 kV kV ch (.inl (c1 _ _ e1)) bj ct ce iS ?done2 ?next2
  case next2 =>
   rintro⟨k,yv⟩ e2 hk hkn he2 hek2 hev2 iS';simp only at hkn hek2 hev2;have hy:=(dc _ hk).1;simp only at hy;obtain⟨zb,za,zn,zc,e8,ea,e9,rfl,_⟩:=hy.opn;have df:(p,k)∉Qs:=fun h=>by
    rcases (bo _).1 h with h|h
    ·exact hpn h.1
    exact hkn h.2
   have al:(Qs++[(p,k)]).Nodup:=by
    rw[Awq];exact⟨bp,mV,fun a ha b hb e'=>df (by simp at hb;rw[<-hb,<-e'];exact ha)⟩
   have c3:∀ x:Par×Par,x∈Qs++[(p,k)]↔(x.1∈L.map (·.1)/\x.2∈lw.map (·.1))\/(x.1=p/\x.2∈(L2++[(k,Value.agg #[.bool zb,.slice za zn zc,.bool false,.slice e8 ea e9])]).map (·.1)):=fun x=>by
    obtain⟨x1,x2⟩:=x;rw[Ati,bo];simp only[Atk,Ati,Auk,Axd,Aub,Aun];constructor
    ·rintro ((h|⟨h1,h2⟩)|⟨h1,h2⟩)
     ·exact .inl h
     ·exact .inr ⟨h1,.inl h2⟩
     exact .inr ⟨h1,.inr h2⟩
    rintro (h|⟨h1,h2|h2⟩)
    ·exact .inl (.inl h)
    ·exact .inl (.inr ⟨h1,h2⟩)
    exact .inr ⟨h1,h2⟩
   refine G.mapEntry ak w1 aa U D2 e2 kV (Ab _ _ _) (.inl (c1 _ _ e1)) bj he2 ?_;rw[hek2,hev2];refine G.c call80 (Gz (hx.mono c1) (hy.mono c1) (SB.ten (ok.a.s p)) (SB.ten (ok.b.s k))) ?_;intro v9 u9 l9 r9;obtain⟨b9,a9,n9,c9,et,f4,ex,rfl,_⟩:=r9.opn;by_cases bs:p=k
   ·have W:con F H (p,k)=F.s p*H.s k+F.s p*H.s k:=by unfold con;rw[if_pos bs]
    refine G.eqAgg 110 #[.int .i64 p.1,.string (mkS p.2)] #[.int .i64 k.1,.string (mkS k.2)] true kV kV kV (fun w=>by rw[<-decide_eq_true bs];exact Dq.eq p k w)<|G.c call16 (Mt r9 r9 (SB.ten (ds p k)) (SB.ten (ds p k))) ?_;intro f6 f5 dq dt;obtain⟨eu,es,f3,ew,eb,er,ec,rfl,_⟩:=dt.opn;refine G.callG _ _ kV kV call82 (g:=g2) (o:=oi) (by rw[Ac _ _ j2];exact bw)
     (Gr (g1:=some g1) (y1:=b2) (y2:=(a2,x2,c2)) (y3:=false) (y4:=(E,K,I)) (p:=p) (r:=k) (iR.mono (l9.trans dq)) dt (by have:=dr (p,k);rw[W]at this;exact this) (ae Qs bp _) (by
      have:=ae (Qs++[(p,k)]) al (A5 p k);rw[Ij,if_pos rfl,W]at this;rw[show (F.s p*H.s k+F.s p*H.s k)+(base (A5 p k)+D0 F H Qs (A5 p k))=base (A5 p k)+((F.s p*H.s k+F.s p*H.s k)+D0 F H Qs (A5 p k)) by grind];exact this)) ?_
    intro v8 u8 o8 l8 r8;refine G.b (iJ (D2++[e2],L2++[(k,_)]) _ _ _ cV ((bz.trans (l9.trans dq)).trans l8)
     ⟨iS',by rw[Ac _ _ (Ne.symm j2),Ab],by rw[Ac _ _ (Ne.symm i2),Ac _ _ k1];exact bx,by rw[Ac _ _ aj,Ac _ _ j1];exact bv,Qs++[(p,k)],al,c3,o8,Ab _ _ _,?_⟩ (by have:=iS'.len;simp at this;dsimp only;simp;omega))
    refine (r8.congr fun j=>?_).up (by simp[Avl]);rw[Ij,W];unfold Hr;by_cases e:j=A5 p k
    ·rw[if_pos e,if_pos e,e];grind
    rw[if_neg e,if_neg e]
   have W:con F H (p,k)=F.s p*H.s k:=by unfold con;rw[if_neg bs]
   refine G.eqAgg 110 #[.int .i64 p.1,.string (mkS p.2)] #[.int .i64 k.1,.string (mkS k.2)] false kV kV kV (fun w=>by rw[<-decide_eq_false bs];exact Dq.eq p k w)<|G.callG _ _ kV kV call82 (g:=g2) (o:=oi) (by rw[Ac _ _ j2];exact bw)
    (Gr (g1:=some g1) (y1:=b2) (y2:=(a2,x2,c2)) (y3:=false) (y4:=(E,K,I)) (p:=p) (r:=k) (iR.mono (l9)) r9 (by have:=dr (p,k);rw[W]at this;exact this) (ae Qs bp _) (by
     have:=ae (Qs++[(p,k)]) al (A5 p k);rw[Ij,if_pos rfl,W]at this;rw[show (F.s p*H.s k)+(base (A5 p k)+D0 F H Qs (A5 p k))=base (A5 p k)+((F.s p*H.s k)+D0 F H Qs (A5 p k)) by grind];exact this)) ?_
   intro v8 u8 o8 l8 r8;refine G.b (iJ (D2++[e2],L2++[(k,_)]) _ _ _ cV ((bz.trans (l9)).trans l8)
    ⟨iS',by rw[Ac _ _ (Ne.symm j2),Ab],by rw[Ac _ _ (Ne.symm i2),Ac _ _ k1];exact bx,by rw[Ac _ _ aj,Ac _ _ j1];exact bv,Qs++[(p,k)],al,c3,o8,Ab _ _ _,?_⟩ (by have:=iS'.len;simp at this;dsimp only;simp;omega))
   refine (r8.congr fun j=>?_).up (by simp[Avl]);rw[Ij,W];unfold Hr;by_cases e:j=A5 p k
   ·rw[if_pos e,if_pos e,e];grind
   rw[if_neg e,if_neg e]
  case done2 =>
  intro cp;refine G.b (hJ (D++[e],L++[(p,_)]) _ _ _ cV (l6.trans bz) ⟨hS',bx,bv,Qs,bp,fun x=>?_,oi,bw,iR.up ?_⟩ (by have:=hS'.len;simp at this;dsimp only;simp;omega))
  ·rw[bo];simp only[Atk,Ati,Auk,Axd,Aub];constructor
   ·rintro (h|⟨h1,h2⟩)
    ·exact⟨.inl h.1,h.2⟩
    obtain⟨y,hy,e'⟩:=Ate.1 h2;exact⟨.inr h1,Ate.2 ⟨y,iS.sub y hy,e'⟩⟩
   rintro⟨h1|h1,h2⟩
   ·exact .inl ⟨h1,h2⟩
   obtain⟨y,hy,e'⟩:=Ate.1 h2;exact .inr ⟨h1,Ate.2 ⟨y,cp y hy,e'⟩⟩
  have:=iS.len;simp only[Atg,Auh,Av1,At2];omega
 case done1 =>
 intro z;refine G.drop ((PH.mt.upd g1 oB).upd g2 aw) kV (fun g o hg=>?_) ?_
 ·by_cases e:g=g2
  ·subst e;rw[Ab]at hg;cases hg;exact br
  rw[Ac _ _ e]at hg;by_cases e:g=g1
  ·subst e;rw[Ab]at hg;cases hg;exact am
  rw[Ac _ _ e]at hg;cases hg
 refine G.r (.agg #[.bool b2,.slice a2 x2 c2,.bool false,.slice E K I,.map (some g1),.map (some g2)]) ⟨b2,a2,x2,c2,false,E,K,I,g1,g2,oB,aw,rfl,r5.mono ((((lA.trans lB).trans lC).trans lD).trans l6),aj,rfl,(e4.mono l6).up oV,(hR.congr fun k=>?_).up ?_⟩
 ·rw[Ahl F H d7 (fun p q h1 h2=>(co _).2 ⟨?_,?_⟩) k,bf]
  ·rfl
  ·have:p∈lv.map (·.1):=Au2 fun h=>h1 (di p h);obtain⟨y,hy,e'⟩:=Ate.1 this;exact Ate.2 ⟨y,z y hy,e'⟩
  exact Au2 fun h=>h2 (dk q h)
 have h1:=V.len;have h2:L.length*lw.length<=N*M:=Aut oV e6;omega
section
variable {p q:Par×Par}{κ:Type}
def Ajs {κ:Type}{c:κ->κ->Int}(v:Ord c){S:List (κ×Rat)}{k:κ}{q:Rat}{n:Nat}(J:Hk c (S.map (·.1)))(L:k∉S.map (·.1))
 (E:∀ j x,j<n->S[j]?=some x->c x.1 k<0) (F:∀ x,S[n]?=some x->¬ c x.1 k<0):Hk c ((S.take n++[(k,q)]++S.drop n).map (·.1)):=by
 have h:Hk c ((S.take n).map (·.1)++(S.drop n).map (·.1)):=by rw[<-Atk,Awg];exact J
 unfold Hk at h⊢;rw[Av8]at h;obtain⟨O,C,Q⟩:=h;have H:∀ a∈(S.take n).map (·.1),c a k<0:=fun a g=>by
  obtain⟨x,t,rfl⟩:=Ate.1 g;obtain⟨j,K,rfl⟩:=Avy t;rw[Atm]at K;refine E j _ oV ?_;rw[Azn,As5 oV]
 have I:∀ b∈(S.drop n).map (·.1),c k b<0:=by
  cases hd:S.drop n with
  |nil=>intro b d;simp at d
  |cons x B =>
   rw[hd,Auk,A0q]at C;have t:S[n]?=some x:=by
    have:=congrArg (fun l=>l[0]?) hd;simpa using this
   have z:x.1≠k:=fun e=>L (Ate.2 ⟨x,Ato t,e⟩);have R:=F x t;have h0:c k x.1<0:=by
    have N:=v.sym k x.1;have T:c x.1 k≠0:=fun e=>z (v.eq _ _ e);rw[N];omega
   intro b d;rw[Auk,At6]at d;rcases d with rfl|d
   ·exact h0
   exact v.trans _ _ _ h0 (C.1 b d)
 rw[Atk,Atk,Av8,Av8];refine⟨⟨O,mV,fun a g b d=>?_⟩,C,fun a g b d=>?_⟩
 ·simp at d;subst d;exact H a g
 rcases Ati.1 g with g|g
 ·exact Q a g b d
 simp at g;subst g;exact I b d
def Sd {α:Type}{S:List α}{x y:α}{n:Nat}:y∈S.take n++[x]++S.drop n↔y∈S\/y=x:=by
 have h:y∈S↔y∈S.take n\/y∈S.drop n:=by rw[<-Ati,Awg]
 rw[h];simp only[Ati,Aub];constructor
 ·rintro ((a|a)|a)
  ·exact .inl (.inl a)
  ·exact .inr a
  exact .inl (.inr a)
 rintro ((a|a)|a)
 ·exact .inl (.inl a)
 ·exact .inr a
 exact .inl (.inr a)
structure Ow {κ:Type}(c:κ->κ->Int)(f:κ->Rat)(L:List κ)(S:List (κ×Rat)):Prop where
 srt:Hk c (S.map (·.1))
 val:∀ p∈S,p.2=f p.1/\p.2≠0
 mem:∀ k,k∈S.map (·.1)↔k∈L/\f k≠0
def Ow.nil {κ:Type}{c:κ->κ->Int}{f:κ->Rat}:Ow c f [] []:=⟨List.Pairwise.nil,fun p hp=>by simp at hp,fun k=>mV⟩
def Ow.skip {c:κ->κ->Int}{f:κ->Rat}{L:List κ}{S:List (κ×Rat)}{k:κ}(h:Ow c f L S)(h0:f k=0):Ow c f (L++[k]) S:=⟨h.srt,h.val,fun j=>by
 rw[h.mem,Ati,Aub];constructor
 ·rintro⟨a,b⟩;exact⟨.inl a,b⟩
 rintro⟨a|rfl,b⟩
 ·exact⟨a,b⟩
 exact absurd h0 b⟩
def Ow.put {κ:Type}{c:κ->κ->Int}(v:Ord c){f:κ->Rat}{L:List κ}{S:List (κ×Rat)}{k:κ}{n:Nat}(h:Ow c f L S)(h0:f k≠0)(C:k∉L)
 (g:∀ j x,j<n->S[j]?=some x->c x.1 k<0) (t:∀ x,S[n]?=some x->¬ c x.1 k<0):Ow c f (L++[k]) (S.take n++[(k,f k)]++S.drop n) :=
 ⟨Ajs v h.srt (fun e=>C ((h.mem k).1 e).1) g t,fun p hp=>by
  rcases Sd.1 hp with e|rfl
  ·exact h.val p e
  ·exact⟨rfl,h0⟩,fun j=>by
  have:=h.mem j;constructor
  ·intro z;obtain⟨p,hp,rfl⟩:=Ate.1 z;rcases Sd.1 hp with e|rfl
   ·obtain⟨a,b⟩:=this.1 (Ate.2 ⟨p,e,rfl⟩);exact⟨Avn _ a,b⟩
   exact⟨mV,h0⟩
  rintro⟨a,b⟩;rcases Ati.1 a with e|e
  ·obtain⟨p,hp,d⟩:=Ate.1 (this.2 ⟨e,b⟩);exact Ate.2 ⟨p,Sd.2 (.inl hp),d⟩
  rw[Aub]at e;exact Ate.2 ⟨(k,f k),Sd.2 (.inr rfl),e.symm⟩⟩
def Ow.can {c:κ->κ->Int}{f:κ->Rat}{L:List κ}{S:List (κ×Rat)}(h:Ow c f L S)(d:∀ k,k∉L->f k=0):Can c f S:=⟨h.srt,h.val,fun k g=>by
 rcases A2k (k∈L) with e|e
 ·exact Au2 fun j=>g ((h.mem k).2 ⟨e,j⟩)
 exact d k e⟩
def Anc (h:Bd p.1 q.1<0):Lw p q<0:=by unfold Lw;rw[if_pos oV];exact h
def Aou (h:¬ Bd p.1 q.1<0)(d:p.1≠q.1):¬ Lw p q<0:=by
 have g:Bd p.1 q.1≠0:=fun e=>d (Fr.eq _ _ e);unfold Lw;rw[if_pos g];exact h
def Aoe (h:p.1=q.1):Lw p q=Bd p.2 q.2:=by unfold Lw;rw[h,Fr.refl,if_neg mV]
def Nw {u:PH}(x y:(Par×Par)×Rat)(r:Bool)(h:decide (Lw x.1 y.1<0)=r):Fn0 prog 87 [Dy x,Dy y] u fun v _=>v=.bool r:=by
 obtain⟨⟨⟨d,e⟩,z,C⟩,q⟩:=x;obtain⟨⟨⟨g,j⟩,E,F⟩,K⟩:=y;refine Fn0.o func87 ?_;by_cases n:Bd (d,e) (g,j)<0
 ·rw[decide_eq_true (Anc n)]at h;subst h;refine G.c call86 (F0 (d,e) (g,j) true (decide_eq_true n)) ?_;rintro J I H rfl;exact G.r (.bool true) ⟨rfl,rfl⟩
 refine G.c call86 (F0 (d,e) (g,j) false (decide_eq_false n)) ?_;rintro J I H rfl;by_cases t:((d,e):Par)=(g,j)
 ·refine G.eqAgg 110 #[.int .i64 d,.string (mkS e)] #[.int .i64 g,.string (mkS j)] true kV kV kV (fun w=>by rw[<-decide_eq_true t];exact Dq.eq (d,e) (g,j) w) ?_;rw[Aoe t]at h;refine G.c call86 (F0 (z,C) (E,F) r h) ?_;rintro N L l2 rfl;cases r with
  |true=>exact G.r (.bool true) ⟨rfl,rfl⟩
  |false=>exact G.r (.bool false) ⟨rfl,rfl⟩
 rw[decide_eq_false (Aou n t)]at h;subst h;exact G.eqAgg 110 #[.int .i64 d,.string (mkS e)] #[.int .i64 g,.string (mkS j)] false kV kV kV (fun w=>by rw[<-decide_eq_false t];exact Dq.eq (d,e) (g,j) w)<|G.r (.bool false) ⟨rfl,rfl⟩
section
variable {P:Program} [A7 P] {fn:Func} {Post:Bz} {st:List KI×S} {u m:PH}
def G.sliceFromG (a:Option Addr)(n c k sz:Nat)(h:Al P (adv P st)=.slice (some sz) (.slice a n c) (some (.int .i64 k)) none none)(T:k<=n)(U:n<=c)
 (g:G P fn Post (nx (adv P st) (.slice (if c=k then a else a.map (·.add (k*sz))) (n-k) (c-k))) u m):G P fn Post st u m:=by
 refine G.ask h mV (fun O o j w hp=>?_) g;obtain⟨t,X,L,H,M,C,I,J,K,N,d⟩:=Ik j;obtain⟨F,R,E,pos,v,z⟩:=o;simp only at C;subst C;unfold Me at d;split at d
 ·rename_i e hu;have Q:(0:Int)<=k/\(k:Int)<=n:=oV;simp only[execOp,I,J,K,N];simp only[Instr.sliceAt,Sem.run_bind,run_underlying hu,Result.andThen_ok,Instr.slice,Instr.sliceBounds,Instr.sliceBound,asIntOf,Sem.run_pure,if_true,Option.isSome,Sem.run_ite,Be d,Q,and_self,Avo]
 cases d
end
end
section
def ElP.fld {u:PH}{b off j:Nat}{xs:Array Value}{x:Value}(h:ElP u b off (.agg xs))(g:xs[j]?=some x)(e:x.cells = #[x]):ElP u b (off+j) x:=h.sub fun i y d=>by
 rw[e]at d
 match i,d with
 |0,d=>simp at d;subst d;exact g
 |i+1,d=>simp at d
def Ac6 (P:Program):List KI×S->List Value->List KI×S
 |st,[]=>st
 |st,v::l=>Ac6 P (nx (adv P st) v) l
section
variable {P:Program} [A7 P] {fn:Func} {Post:Bz} {st:List KI×S} {u m:PH}
def G.joinF {ι:Type}(f:List KI×S->List KI×S)(T:ι->List (Nat×SV))(B:ι->List (Nat×Blk))(h:ι->PH->PH->Prop)(H:∀ i,Th (T i) (B i)=true)(I:Gf (Ju P 200 (f st)).1=true)
 (j:∀ i e g,PH.le u e->h i e g->G P fn Post ((Ju P 200 (f st)).1,S.of (Ju P 200 (f st)).2.n (T i) (B i)) e g)
 (k:(∀ i d e g,(Ju P 200 d).1=(Ju P 200 (f st)).1->Cov (Ju P 200 (f st)).2.n (Ju P 200 d).2 (T i) (B i)->PH.le u e->h i e g->G P fn Post d e g)->G P fn Post st u m):G P fn Post st u m:=by
 refine k fun i d e g z v C E=>?_;have F:Cov (Ju P 200 d).2.n (Ju P 200 d).2 (T i) (B i):=⟨rfl,v.t,v.b⟩;refine G.canon (T i) (B i) (by rw[z];exact I) (H i) F ?_;rw[z,v.n];exact j i e g C E
end
def Aa5 {L:List (List UInt8)}(h:L.Nodup){i k:Nat}{x y:List UInt8}(v:L[i]?=some x)(z:L[k]?=some y)(d:k≠i):y≠x:=fun e=>by
 subst e;obtain⟨g,j⟩:=Atc.1 v;obtain⟨n,t⟩:=Atc.1 z;rcases Nat.lt_or_gt_of_ne d with e|e
 ·exact absurd (t.trans j.symm) (Avr.1 h k i n g e)
 exact absurd (j.trans t.symm) (Avr.1 h i k g n e)
def Pl {u:PH}{s:List UInt8}(h:Hl s=true):Fn0 prog 78 [.string (mkS s)] u fun v _=>v=.bool true:=by
 obtain⟨z,C⟩:=Xp h;obtain⟨c0,e⟩:∃ c,s[0]?=some c:=⟨_,As5 oV⟩;have E:=Sj h e;refine Fn0.o func78<|G.eF s.length 0<|G.gF s.length 12<|G.idxS s 0 c0 kV e<|G.cmpG .lss .u8 (c0.toNat:Int) 97 false kV rfl (by simp only[Cj,decide_eq_false_iff_not];omega)<|G.idxS s 0 c0 kV e<|G.cmpG .gtr .u8 (c0.toNat:Int) 122 false kV rfl (by simp only[Cj,decide_eq_false_iff_not];omega)<|G.l (ι:=Nat) (fun i=>[(0,tV s),(3,iV i)]) (fun _=>[])
  (fun i K F=>i<=s.length/\F=PH.mt) (fun i=>s.length-i) 0 ⟨oV,rfl⟩ ?_
 rintro J i g L I l2 ⟨hi,rfl⟩;by_cases j:i<s.length
 ·refine G.lT i s.length ?_;obtain⟨b,d⟩:∃ b,s[i]?=some b:=⟨_,As5 j⟩;have H:=Sj h d;refine G.idxS s i b kV d ?_;by_cases t:97<=b.toNat
  ·exact G.cmpG .geq .u8 (b.toNat:Int) 97 true kV rfl (by simp only[Cj,decide_eq_true_eq];omega)<|G.idxS s i b kV d<|G.cmpG .leq .u8 (b.toNat:Int) 122 true kV rfl (by simp only[Cj,decide_eq_true_eq];omega)<|G.i i<|G.b (g (i+1) _ _ _ cV l2 ⟨oV,rfl⟩ oV)
  refine G.cmpG .geq .u8 (b.toNat:Int) 97 false kV rfl (by simp only[Cj,decide_eq_false_iff_not];omega)<|G.idxS s i b kV d ?_;by_cases n:48<=b.toNat
  ·exact G.cmpG .geq .u8 (b.toNat:Int) 48 true kV rfl (by simp only[Cj,decide_eq_true_eq];omega)<|G.idxS s i b kV d<|G.cmpG .leq .u8 (b.toNat:Int) 57 true kV rfl (by simp only[Cj,decide_eq_true_eq];omega)<|G.i i<|G.b (g (i+1) _ _ _ cV l2 ⟨oV,rfl⟩ oV)
  exact G.cmpG .geq .u8 (b.toNat:Int) 48 false kV rfl (by simp only[Cj,decide_eq_false_iff_not];omega)<|G.idxS s i b kV d<|G.cmpG .eql .u8 (b.toNat:Int) 45 true kV rfl (by simp only[Cj,decide_eq_true_eq];omega)<|G.i i<|G.b (g (i+1) _ _ _ cV l2 ⟨oV,rfl⟩ oV)
 obtain rfl:i=s.length:=oV;exact G.lF s.length s.length<|G.r (.bool true) ⟨rfl,rfl⟩
def Qy {u:PH}{v:Value}{T:List (List UInt8×Nat)}{R:List Ch}{F:List Aq}{lab:Int}(h:In u v T R F lab)(ok:By u T R F lab) :
 Fn0 prog 29 [v] u fun r _=>r=.int .i64 0:=by
 obtain⟨xa,O,xb,U,xe,Y,rfl,hT,hR,hF⟩:=h;have t1:=ok.t1;have t2:=ok.t2;have r1:=ok.r1;have r2:=ok.r2;have f2:=ok.f2;have lo:=ok.l1;have hi:lab<T.length:=by
  rcases Axn lab 0 with ap|bf
  ·omega
  obtain⟨n,hn⟩:=ok.l2 lab.toNat oV;obtain⟨hk,_⟩:=Atc.1 hn;omega
 refine Fn0.o func29<|G.eF T.length 0<|G.gF T.length 12<|G.eF R.length 0<|G.gF R.length 6<|G.gF F.length 8<|G.l (ι:=Nat) (fun i=>[(1,.p 0 0),(49,sV xa T.length O),(50,iV T.length),(51,iV i)])
  (fun _=>[(0,⟨30,[sV xa T.length O,sV xb R.length U,sV xe F.length Y,iV lab]⟩)])
  (fun i u' K=>i<=T.length/\K=PH.mt) (fun i=>T.length-i) 0 ⟨oV,rfl⟩ ?_
 rintro J i hJ u1 m1 l1 ⟨bn,rfl⟩;by_cases ap:i<T.length
 ·refine G.lT i T.length ?_;obtain⟨x,am⟩:∃ x,T[i]?=some x:=⟨_,As5 ap⟩;have b5:=Ato am;obtain⟨bh,bi⟩:=ok.att.kind x b5;have t:=ok.att.names.word x.1 (Ate.2 ⟨x,b5,rfl⟩);have Q:(T.map (·.1))[i]?=some x.1:=by rw[Aty,am];rfl
  obtain⟨H,N,rfl,ea⟩:=Ad.at' (hT.mono l1) (j:=i) (e:=Ej x) (by simp[am]);obtain⟨xn,xk⟩:=x;simp only at bh bi t Q;refine G.a H N T.length O i 2 ap<|G.lU (some 2) H (N+i*2) (.agg #[.string (mkS xn),.int .i64 xk]) ea<|G.c call78 (Pl t) ?_;rintro v2 u2 l2 rfl;refine G.l (ι:=Nat) (fun k=>[(1,.p 0 0),(3,iV i),(4,.p 5003 0),(5,iV k),(49,sV (some ⟨H,N,none⟩) T.length O),(50,iV T.length),(51,iV i)])
   (fun _=>[(0,⟨30,[sV (some ⟨H,N,none⟩) T.length O,sV xb R.length U,sV xe F.length Y,iV lab]⟩),(5003,⟨77,[tV xn,iV xk]⟩)])
   (fun k u' K=>k<=i/\K=PH.mt) (fun k=>i-k) 0 ⟨oV,rfl⟩ ?_
  rintro J2 k z u3 m3 l3 ⟨hk,rfl⟩;by_cases an:k<i
  ·refine G.lT k i ?_;obtain⟨y,a0⟩:∃ y,T[k]?=some y:=⟨_,As5 oV⟩;have a4:(T.map (·.1))[k]?=some y.1:=by rw[Aty,a0];rfl
   have a9:=Aa5 ok.att.names.nodup Q a4 oV;obtain⟨_,_,e',ek⟩:=Ad.at' (hT.mono ((l1.trans l2).trans l3)) (j:=k) (e:=Ej y) (by simp[a0]);cases e';exact G.a H N T.length O k 2 oV<|G.f 77 H (N+k*2) 0 0<|G.lU none H (N+k*2+0) (.string (mkS y.1)) (ek.fld rfl rfl)<|G.w y.1 xn a9<|G.i k<|G.b (z (k+1) _ _ _ cV l3 ⟨oV,rfl⟩ oV)
  obtain rfl:k=i:=oV;exact G.lF k k<|G.lF xk 1<|G.gF xk 3<|G.i k<|G.b (hJ (k+1) _ _ _ cV ((l1.trans l2).trans l3) ⟨oV,rfl⟩ oV)
 obtain rfl:i=T.length:=oV;refine G.lF T.length T.length ?_;clear hJ;refine G.make 4 1 1 (.bool false) T.length kV rfl rfl oV oV oV ?_;rintro v1 mA ar ⟨ad,rfl⟩;obtain⟨g,rfl,_⟩:=ar.some';refine G.l (ι:=Nat×List Bool) (fun i=>[(1,.p 0 0),(6,sV (some ⟨g,0,none⟩) T.length T.length),(88,sV xb R.length U),(89,iV R.length),(90,iV i.1)])
  (fun _=>[(0,⟨30,[sV xa T.length O,sV xb R.length U,sV xe F.length Y,iV lab]⟩)])
  (fun i u' K=>i.1<=R.length/\i.2.length=T.length/\(∀ r∈R.take i.1,∀ q∈r.2.1,i.2[q]?=some true)/\Ae PH.mt K (.slice (some ⟨g,0,none⟩) T.length T.length) 4 1 (i.2.map Value.bool)) (fun i=>R.length-i.1) (0,List.replicate T.length false)
  ⟨mV,mV,mV,by rw[Aw5];exact ar⟩ ?_
 rintro J ⟨i,L⟩ hJ u2 m2 l2 ⟨bg,hL,Z,ai⟩;simp only at bg hL Z ai hJ;have aa:=l1.trans l2;by_cases ae:i<R.length
 ·refine G.lT i R.length ?_;obtain⟨q,a7⟩:∃ q,R[i]?=some q:=⟨_,As5 ae⟩;have E:=Ato a7;have b3:R.take (i+1)=R.take i++[q]:=by rw[At0,a7];rfl
  have t:=ok.rel.names.word q.1 (Ate.2 ⟨q,E,rfl⟩);have Q:(R.map (·.1))[i]?=some q.1:=by rw[Aty,a7];rfl
  obtain⟨H,N,rfl,ea⟩:=Ad.at' (hR.mono aa) (j:=i) (e:=Gs q) (by simp[a7]);obtain⟨qs,d,qa,qc⟩:=q;have a9:d≠[]:=ok.rel.ne _ E;have bj:∀ p∈d,p<T.length:=ok.rel.lt _ E;have bu:d.length<=1000:=ok.rel.len _ E;have aw:∀ (k:Nat) x y,d[k]?=some x->d[k+1]?=some y->x<y:=ok.rel.asc _ E;have b2:Ad u2 (.slice qa d.length qc) 1 (Ah d):=(ok.rel.at' _ E).mono aa;have bt:0<d.length:=Avq.2 a9;simp only at t Q;refine G.a H N R.length U i 2 ae<|G.lU (some 2) H (N+i*2) (.agg #[.string (mkS qs),.slice qa d.length qc]) ea<|G.c call78 (Pl t) ?_;rintro v3 u3 l3 rfl;refine G.l (ι:=Nat) (fun k=>[(1,.p 0 0),(6,sV (some ⟨g,0,none⟩) T.length T.length),(7,iV i),(8,.p 19003 0),(9,iV k),(88,sV (some ⟨H,N,none⟩) R.length U),(89,iV R.length),(90,iV i)])
   (fun _=>[(0,⟨30,[sV xa T.length O,sV (some ⟨H,N,none⟩) R.length U,sV xe F.length Y,iV lab]⟩),(19003,⟨155,[tV qs,sV qa d.length qc]⟩)])
   (fun k u' K=>k<=i/\K=m2) (fun k=>i-k) 0 ⟨oV,rfl⟩ ?_
  rintro J2 k z u4 m4 l4 ⟨hk,rfl⟩;by_cases an:k<i
  ·refine G.lT k i ?_;obtain⟨y,a0⟩:∃ y,R[k]?=some y:=⟨_,As5 oV⟩;have a4:(R.map (·.1))[k]?=some y.1:=by rw[Aty,a0];rfl
   have az:=Aa5 ok.rel.names.nodup Q a4 oV;obtain⟨_,_,e',ek⟩:=Ad.at' (hR.mono ((aa.trans l3).trans l4)) (j:=k) (e:=Gs y) (by simp[a0]);cases e';exact G.a H N R.length U k 2 oV<|G.f 155 H (N+k*2) 0 0<|G.lU none H (N+k*2+0) (.string (mkS y.1)) (ek.fld rfl rfl)<|G.w y.1 qs az<|G.i k<|G.b (z (k+1) _ _ _ cV l4 ⟨oV,rfl⟩ oV)
  obtain rfl:k=i:=oV;refine G.lF k k ?_;clear z;refine G.eF d.length 0<|G.l (ι:=Nat×List Bool) (fun j=>[(1,.p 0 0),(6,sV (some ⟨g,0,none⟩) T.length T.length),(8,.p 19003 0),(88,sV (some ⟨H,N,none⟩) R.length U),(89,iV R.length),(90,iV k),(118,sV qa d.length qc),(119,iV d.length),(120,iV j.1)])
   (fun _=>[(0,⟨30,[sV xa T.length O,sV (some ⟨H,N,none⟩) R.length U,sV xe F.length Y,iV lab]⟩),(19003,⟨155,[tV qs,sV qa d.length qc]⟩)])
   (fun j u' K=>j.1<=d.length/\j.2.length=T.length/\(∀ r∈R.take k,∀ q∈r.2.1,j.2[q]?=some true)/\(∀ q∈d.take j.1,j.2[q]?=some true)/\Ae PH.mt K (.slice (some ⟨g,0,none⟩) T.length T.length) 4 1 (j.2.map Value.bool)) (fun j=>d.length-j.1) (0,L)
   ⟨mV,hL,Z,mV,ai⟩ ?_
  rintro J2 ⟨j,L2⟩ z u6 m6 l6 ⟨hj,al,V,I,aj⟩;simp only at hj al V I aj z;have b6:=(l3.trans l4).trans l6;have a5:=b2.mono b6;by_cases ag:j<d.length
  ·refine G.lT j d.length ?_;obtain⟨p,aq⟩:∃ p,d[j]?=some p:=⟨_,As5 ag⟩;have bk:p<T.length:=bj _ (Ato aq);have b4:d.take (j+1)=d.take j++[p]:=by rw[At0,aq];rfl
   obtain⟨bq,oq,rfl,eq⟩:=Ad.at' a5 (j:=j) (e:=.int .i64 p) (by simp[Ah,aq]);refine G.a bq oq d.length qc j 1 ag<|G.lU none bq (oq+j*1) (.int .i64 p) eq<|G.lF p 0<|G.hF p T.length<|G.a g 0 T.length T.length p 1 bk<|G.storeA 1 PH.mt (L2.map Value.bool) g T.length T.length p (.bool true) kV aj (by rw[Ata];omega) rfl rfl ?_;intro m7 au;rw[Ov]at au;refine G.i j ?_;have a1:∀ q,L2[q]?=some true->(L2.set p true)[q]?=some true:=fun q X=>by
    rw[Au5];split
    ·subst_vars;rw[if_pos oV]
    exact X
   exact G.b (z (j+1,L2.set p true) _ _ _ cV l6 ⟨dV,by simp[al],fun r hr q X=>a1 q (V r hr q X),by
    intro q X;dsimp only at X⊢;rw[b4,Ati,Aub]at X;rcases X with X|rfl
    ·exact a1 q (I q X)
    rw[Au5];simp;omega,au⟩ dV)
  obtain rfl:j=d.length:=oV;refine G.lF d.length d.length ?_;clear z;rw[At9]at I;refine G.l (ι:=Nat) (fun j=>[(1,.p 0 0),(6,sV (some ⟨g,0,none⟩) T.length T.length),(8,.p 19003 0),(12,iV (j+1:Nat)),(88,sV (some ⟨H,N,none⟩) R.length U),(89,iV R.length),(90,iV k)])
   (fun _=>[(0,⟨30,[sV xa T.length O,sV (some ⟨H,N,none⟩) R.length U,sV xe F.length Y,iV lab]⟩),(19003,⟨155,[tV qs,sV qa d.length qc]⟩)])
   (fun j u' K=>j+1<=d.length/\K=m6) (fun j=>d.length-j) 0
   ⟨oV,rfl⟩ ?_
  rintro J3 j b9 u8 m8 l8 ⟨br,rfl⟩;have a6:=a5.mono l8;by_cases ah:j+1<d.length
  ·refine G.lT (j+1:Nat) d.length ?_;obtain⟨C,b0⟩:∃ p,d[j]?=some p:=⟨_,As5 oV⟩;obtain⟨p2,b1⟩:∃ p,d[j+1]?=some p:=⟨_,As5 ah⟩;have a3:=aw j _ _ b0 b1;obtain⟨bq,oq,rfl,b8⟩:=Ad.at' a6 (j:=j+1) (e:=.int .i64 p2) (by simp[Ah,b1]);obtain⟨_,_,e',b7⟩:=Ad.at' a6 (j:=j) (e:=.int .i64 C) (by simp[Ah,b0]);cases e';exact G.a bq oq d.length qc (j+1) 1 ah<|G.lU none bq (oq+(j+1)*1) (.int .i64 p2) b8<|G.s (j+1:Nat) 1 j<|G.a bq oq d.length qc j 1 oV<|G.lU none bq (oq+j*1) (.int .i64 C) b7<|G.kF p2 C<|G.p (j+1:Nat) 1 (j+1+1:Nat)<|G.b (b9 (j+1) _ _ _ cV l8 ⟨oV,rfl⟩ oV)
  refine G.lF (j+1:Nat) d.length<|G.i k ?_;exact G.b (hJ (k+1,L2) _ _ _ cV ((l2.trans b6).trans l8) ⟨dV,al,by
   intro r hr q X;dsimp only at hr X⊢;rw[b3,Ati,Aub]at hr;rcases hr with hr|rfl
   ·exact V r hr q X
   exact I q X,aj⟩ dV)
 obtain rfl:i=R.length:=oV;refine G.lF R.length R.length ?_;clear hJ;rw[At9]at Z;refine G.l (ι:=Nat) (fun i=>[(1,.p 0 0),(6,sV (some ⟨g,0,none⟩) T.length T.length),(156,sV (some ⟨g,0,none⟩) T.length T.length),(157,iV T.length),(158,iV i)])
  (fun _=>[(0,⟨30,[sV xa T.length O,sV xb R.length U,sV xe F.length Y,iV lab]⟩)])
  (fun i u' K=>i<=T.length/\K=m2) (fun i=>T.length-i) 0 ⟨oV,rfl⟩ ?_
 rintro J i hJ u3 m3 l3 ⟨bo,rfl⟩;by_cases a3:i<T.length
 ·refine G.lT i T.length ?_;have bc:L[i]?=some true:=by
   obtain⟨r,hr,X⟩:=ok.rel.all i a3;exact Z r hr i X
  exact G.a g 0 T.length T.length i 1 a3<|G.lM none g (0+i*1) (.bool true) (ai.el (by rw[Aty,bc];rfl))<|G.i i<|G.b (hJ (i+1) _ _ _ cV l3 ⟨oV,rfl⟩ oV)
 obtain rfl:i=T.length:=oV;refine G.lF T.length T.length ?_;clear hJ;have bl:=aa.trans l3;refine G.l (ι:=Nat) (fun i=>[(1,.p 0 0),(6,sV (some ⟨g,0,none⟩) T.length T.length),(166,sV xe F.length Y),(167,iV F.length),(168,iV i)])
  (fun _=>[(0,⟨30,[sV xa T.length O,sV xb R.length U,sV xe F.length Y,iV lab]⟩)])
  (fun i u' K=>i<=F.length/\K=m3) (fun i=>F.length-i) 0 ⟨oV,rfl⟩ ?_
 rintro J i hJ u4 m4 l4 ⟨bp,rfl⟩;have ac:=bl.trans l4;by_cases af:i<F.length
 ·refine G.lT i F.length ?_;obtain⟨f,ak⟩:∃ f,F[i]?=some f:=⟨_,As5 af⟩;have be:=Ato ak;obtain⟨fn,fk,ax,a2,ay⟩:=ok.feat.ok f be;obtain⟨a8,_⟩:=Atc.1 ax;have Q:(F.map (·.1))[i]?=some f.1:=by rw[Aty,ak];rfl
  obtain⟨fb,fo,rfl,ef⟩:=Ad.at' (hF.mono ac) (j:=i) (e:=Ce f) (by simp[ak]);obtain⟨ab,ao,rfl,ea⟩:=Ad.at' (hT.mono ac) (j:=f.1) (e:=Ej (fn,fk)) (by simp[ax]);obtain⟨C,p2,p3⟩:=f;simp only at a2 ay a8 Q ea;refine G.a fb fo F.length Y i 3 af<|G.lU (some 3) fb (fo+i*3) (.agg #[.int .i64 C,.int .i64 p2,.int .i64 p3]) ef<|G.lF C 0<|G.hF C T.length<|G.joinF (ι:=Unit) (fun st=>Lg prog (Ac6 prog st [.bool false,.bool true,.bool true,undef,undef,undef,.bool true])) (fun _=>[(1,.p 0 0),(6,sV (some ⟨g,0,none⟩) T.length T.length),(15,iV i),(16,.p 50003 0),(166,sV (some ⟨fb,fo,none⟩) F.length Y),(167,iV F.length),(168,iV i)])
   (fun _=>[(0,⟨30,[sV (some ⟨ab,ao,none⟩) T.length O,sV xb R.length U,sV (some ⟨fb,fo,none⟩) F.length Y,iV lab]⟩),(50003,⟨82,[iV C,iV p2,iV p3]⟩)])
   (fun _ u' K=>u'=u4/\K=m4) (fun _=>kV) kV ?tail ?way
  case way =>
   intro W;rcases a2 with ⟨rfl,rfl,bs⟩|⟨rfl,rfl,rfl⟩
   ·refine G.eT (1:Nat) 1 ?_;rcases (by omega:p3=0\/p3=1) with rfl|rfl
    ·refine G.eT (0:Nat) 0<|G.a ab ao T.length O C 2 a8<|G.f 77 ab (ao+C*2) 1 1<|G.lU none ab (ao+C*2+1) (.int .i64 (2:Nat)) (Jy ea)<|G.eT (2:Nat) 2<|G.eF (1:Nat) 2<|G.pastI ?_;exact W () _ _ _ kV cV (PH.le_refl _) ⟨rfl,rfl⟩
    refine G.eF (1:Nat) 0<|G.eT (1:Nat) 1<|G.a ab ao T.length O C 2 a8<|G.f 77 ab (ao+C*2) 1 1<|G.lU none ab (ao+C*2+1) (.int .i64 (2:Nat)) (Jy ea)<|G.eT (2:Nat) 2<|G.eF (1:Nat) 2<|G.pastI ?_;exact W () _ _ _ kV cV (PH.le_refl _) ⟨rfl,rfl⟩
   refine G.eF (2:Nat) 1<|G.eT (2:Nat) 2<|G.eT (0:Nat) 0<|G.a ab ao T.length O C 2 a8<|G.f 77 ab (ao+C*2) 1 1<|G.lU none ab (ao+C*2+1) (.int .i64 (3:Nat)) (Jy ea)<|G.eT (3:Nat) 3<|G.pastI ?_;exact W () _ _ _ kV cV (PH.le_refl _) ⟨rfl,rfl⟩
  rintro _ u5 m5 _ ⟨rfl,rfl⟩;refine G.l (ι:=Nat) (fun k=>[(1,.p 0 0),(6,sV (some ⟨g,0,none⟩) T.length T.length),(15,iV i),(16,.p 50003 0),(19,iV k),(166,sV (some ⟨fb,fo,none⟩) F.length Y),(167,iV F.length),(168,iV i)])
   (fun _=>[(0,⟨30,[sV (some ⟨ab,ao,none⟩) T.length O,sV xb R.length U,sV (some ⟨fb,fo,none⟩) F.length Y,iV lab]⟩),(50003,⟨82,[iV C,iV p2,iV p3]⟩)])
   (fun k u' K=>k<=i/\K=m5) (fun k=>i-k) 0 ⟨oV,rfl⟩ ?_
  rintro J2 k z u6 m6 l6 ⟨hk,rfl⟩;by_cases an:k<i
  ·refine G.lT k i ?_;obtain⟨y,av⟩:∃ y,F[k]?=some y:=⟨_,As5 oV⟩;have a4:(F.map (·.1))[k]?=some y.1:=by rw[Aty,av];rfl
   have a9:y.1≠C:=fun e=>Nat.ne_of_lt an (Ak4 ok.feat.nodup a4 (by rw[Q,e]));obtain⟨_,_,e',ek⟩:=Ad.at' (hF.mono (ac.trans l6)) (j:=k) (e:=Ce y) (by simp[av]);cases e';exact G.a fb fo F.length Y k 3 oV<|G.f 82 fb (fo+k*3) 0 0<|G.lU none fb (fo+k*3+0) (.int .i64 y.1) (ek.fld rfl rfl)<|G.eF y.1 C<|G.i k<|G.b (z (k+1) _ _ _ cV l6 ⟨oV,rfl⟩ oV)
  obtain rfl:k=i:=oV;exact G.lF k k<|G.eF' C lab ay<|G.i k<|G.b (hJ (k+1) _ _ _ cV (l4.trans l6) ⟨oV,rfl⟩ oV)
 obtain rfl:i=F.length:=oV;refine G.lF F.length F.length<|G.drop PH.mt kV (PH.mt_le _)<|G.lF lab (-1)<|G.hF lab T.length ?_;rcases Axn lab 0 with bm|bf
 ·exact G.hF lab 0<|G.r (.int .i64 0) ⟨rfl,rfl⟩
 refine G.hT lab 0 ?_;obtain⟨l,rfl⟩:∃ l:Nat,lab=(l:Int):=⟨lab.toNat,oV⟩;obtain⟨n,hn⟩:=ok.l2 l rfl;obtain⟨bb,ob,rfl,eb⟩:=Ad.at' (hT.mono ac) (j:=l) (e:=Ej (n,2)) (by simp[hn]);exact G.a bb ob T.length O l 2 oV<|G.f 77 bb (ob+l*2) 1 1<|G.lU none bb (ob+l*2+1) (.int .i64 (2:Nat)) (Jy eb)<|G.nF (2:Nat) 2<|G.r (.int .i64 0) ⟨rfl,rfl⟩
end
section
variable {u:PH}
def An4 {l:List Nat}{i:Nat}(h:i<l.length):l.drop i=l.getD i 0::l.drop (i+1):=by
 rw[Aw9 h];simp[As7,As5 h]
def Abm (l:List Nat):∀ k,val (l.drop k)<=val l:=by
 induction l with
 |nil=>intro k;simp
 |cons a l ih =>
  intro k;cases k with
  |zero=>simp
  |succ k =>
   have:=ih k;simp only[List.drop_succ_cons,val];omega
def Mz {z:Int}(hz:z.natAbs<1000000000000000000):Fn0 prog 141 [.string (mkS (Lib.itoa z))] u fun v _=>v=.tuple #[.int .i64 z,.bool true]:=by
 have E:=Mm hz;refine Fn0.o func141<|G.c call186 (P5 E) ?_;rintro v1 u1 l1 rfl;refine G.c call65 (Lt E) ?_;intro v2 u2 l2 k2;obtain⟨b,a,n,c,rfl,N,hi⟩:=k2.opn;obtain⟨rfl,hc⟩:=hi.len;refine G.c call58 (Aeq (n:=4611686018427387904) oV oV) ?_;intro v3 u3 R k3;obtain⟨b',a',n',c',rfl,W,t⟩:=k3.opn;obtain⟨rfl,X⟩:=t.len;have F:nl z.natAbs<=400:=Bi E;have Q:nl (4611686018427387904:Int).natAbs<=400:=Bi jV;refine G.c call132 (Jj (hi.mono R) t oV oV) ?_;rintro v4 u4 l4 rfl;have hs:sgn (((z.natAbs:Nat):Int)-(((4611686018427387904:Int).natAbs:Nat):Int))<=0:=by
  unfold sgn;have:((4611686018427387904:Int).natAbs:Int)=4611686018427387904:=fV;split
  ·omega
  split<;>omega
 refine G.gF (sgn (((z.natAbs:Nat):Int)-(((4611686018427387904:Int).natAbs:Nat):Int))) 0 ?_;have P:(Aa z.natAbs).length<=400:=F;refine G.s ((Aa z.natAbs).length:Int) 1 ((Aa z.natAbs).length-1:Int)<|G.l (ι:=Int×Nat) (fun i=>[(4,.p 3002 0),(6,iV i.2),(7,iV i.1)]) (fun _=>[(3002,⟨55,[bV b,sV a (Aa z.natAbs).length c]⟩)])
  (fun i u' m'=>-1<=i.1/\i.1<(Aa z.natAbs).length/\i.2=val ((Aa z.natAbs).drop (i.1+1).toNat)/\m'=PH.mt) (fun i=>(i.1+1).toNat) (((Aa z.natAbs).length-1:Int),0) ⟨dV,dV,by
   dsimp only;rw[show (((Aa z.natAbs).length:Int)-1+1).toNat=(Aa z.natAbs).length by omega,List.drop_length];rfl,rfl⟩ ?_
 rintro J ⟨i,s⟩ L u5 m5 T ⟨U,V,g,rfl⟩;simp only at U V g L;have C:=Ai z.natAbs;by_cases Y:0<=i
 ·obtain⟨k,rfl⟩:∃ k:Nat,i=(k:Int):=⟨i.toNat,oV⟩;have m:k<(Aa z.natAbs).length:=oV;rw[show ((k:Int)+1).toNat=k+1 by omega]at g;have j:=An4 m;have h:=Abm (Aa z.natAbs) k;rw[C,j]at h;simp only[val]at h;rw[<-g]at h;refine G.hT k 0<|G.mul (s:Int) 1000000000 ((s*1000000000:Nat):Int) kV oV oV oV ?_;obtain⟨K,off,rfl,e⟩:=(hi.mono ((R.trans l4).trans T)).at m;refine G.a K off (Aa z.natAbs).length c k 1 m<|G.lU none K (off+k*1) (.int .i64 ((Aa z.natAbs).getD k 0:Nat)) e ?_;generalize hg:(Aa z.natAbs).getD k 0=d at j h;refine G.p (s*1000000000:Nat) d (s*1000000000+d:Nat)<|G.s k 1 ((k:Int)-1) ?_;exact G.b (L ((k:Int)-1,s*1000000000+d) _ _ _ cV T ⟨dV,dV,by
   dsimp only;rw[show ((k:Int)-1+1).toNat=k by omega,j];simp only[val];rw[<-g];omega,rfl⟩ dV)
 obtain rfl:i = -1:=oV;refine G.hF (-1) 0 ?_;have H:s=z.natAbs:=by rw[g,show ((-1:Int)+1).toNat=0 by decide,Aw4,C]
 subst H;cases b with
 |true =>
  have O:z<0:=by simpa using N.symm
  exact G.neg ((z.natAbs:Nat):Int) z kV oV oV oV<|G.r (.tuple #[.int .i64 z,.bool true]) ⟨rfl,rfl⟩
 |false =>
  have Z:¬ z<0:=by simpa using N.symm
  have I:((z.natAbs:Nat):Int)=z:=oV;refine G.r (.tuple #[.int .i64 (z.natAbs:Nat),.bool true]) ⟨rfl,by rw[I]⟩
def Aqz (z:Int):Ap (z:Rat)=Lib.itoa z:=by
 unfold Ap;simp
def Ai3 {x:List UInt8×Nat}{t:List UInt8}(C:1<=x.2)(E:x.2<=3)(h:Rb x.2 t):Fn0 prog 79 [Ej x,.string (mkS t)] u fun v _=>v=.bool true:=by
 obtain⟨s,k⟩:=x;simp only at C E h;refine Fn0.o func79<|G.lF k 1<|G.gF k 3 ?_;by_cases g:t = []
 ·exact G.q t [] g<|G.r (.bool true) ⟨rfl,rfl⟩
 refine G.w t [] g ?_;rcases h with e|⟨rfl,I⟩|⟨rfl,z,Q,rfl⟩|⟨rfl,q,H,rfl⟩
 ·exact absurd e g
 ·refine G.eT (3:Nat) 3<|G.c call78 (Pl I) ?_;rintro n m j rfl;exact G.r (.bool true) ⟨rfl,rfl⟩
 ·refine G.eF (1:Nat) 3 ?_;have hp:=Qr (u:=u) (q:=(z:Rat)) ⟨Mm (by simpa using (by omega:z.natAbs<1000000000000000000)),by simp;decide +kernel⟩;rw[Aqz]at hp;simp only[Rat.num_intCast,Rat.den_intCast]at hp;refine G.c call126 hp ?_;rintro n m j rfl;refine G.eT (1:Nat) 1<|G.y (Lib.itoa ((1:Nat):Int)) [49] jV<|G.c call141 (Mz (z:=z) oV) ?_;rintro N K l2 rfl;refine G.c call141 (Mz (z:=((1:Nat):Int)) oV) ?_;rintro O L J rfl;exact G.hT z (-1000000000)<|G.kT z 1000000000<|G.kT (1:Nat) 12<|G.r (.bool true) ⟨rfl,rfl⟩
 have d:=H.dat;have P:=d.num;have F:=d.den;refine G.eF (2:Nat) 3<|G.c call126 (Qr d.tx) ?_;rintro n m j rfl;refine G.eF (2:Nat) 1<|G.c call141 (Mz (z:=q.num) oV) ?_;rintro N K l2 rfl;refine G.c call141 (Mz (z:=(q.den:Int)) oV) ?_;rintro O L J rfl;exact G.hT q.num (-1000000000)<|G.kT q.num 1000000000<|G.kT q.den 12<|G.r (.bool true) ⟨rfl,rfl⟩
def Ag8 {v O:Value}{T:List (List UInt8×Nat)}{R:List Ch}{F:List Aq}{lab:Int}{d:List (List UInt8)}(h:Ahw u v O T R F lab d) :
 Fn0 prog 31 [v,O] u fun r _=>r=.int .i64 0:=by
 have C:=fun (P:PH) (l:PH.le u P)=>Qy (h.sch.mono l) (h.ok.mono l);obtain⟨⟨xa,Q,xb,xd,xe,xf,rfl,z,X,V⟩,ok,t,hT⟩:=h;obtain⟨ya,U,rfl⟩:=t.opn;rw[Ata]at t⊢;have L:=hT.len;have t2:=ok.t2;refine Fn0.o func31<|G.c call29 (C u (PH.le_refl _)) ?_;rintro v1 u1 Y rfl;refine G.nF 0 0<|G.nF d.length T.length<|G.l (ι:=Nat) (fun i=>[(2,.p 0 0),(19,sV ya d.length U),(20,iV d.length),(21,iV i)])
  (fun _=>[(0,⟨30,[sV xa T.length Q,sV xb R.length xd,sV xe F.length xf,iV lab]⟩)])
  (fun i P m'=>i<=d.length/\m'=PH.mt) (fun i=>d.length-i) 0 ⟨oV,rfl⟩ ?_
 rintro J i W u2 m2 l2 ⟨hi,rfl⟩;have n:=Y.trans l2;by_cases g:i<d.length
 ·refine G.lT i d.length ?_;obtain⟨b,off,rfl,e⟩:=Afd (t.mono n) g;refine G.a b off d.length U i 1 g<|G.lU none b (off+i*1) (.string (mkS (d.getD i []))) e ?_;have m:T[i]?=some T[i]:=As5 oV;have E:=ok.att.kind T[i] (Ath oV);have H:=hT.val i _ _ m (As5 g);rw[show d[i]=d.getD i [] by simp[As7,As5 g]]at H;obtain⟨I,N,rfl,K⟩:=Ad.at' (z.mono n) (j:=i) (e:=Ej T[i]) (by simp[m]);generalize T[i]=x at m E H K;refine G.a I N T.length Q i 2 oV<|G.lU (some 2) I (N+i*2) (Ej x) K<|G.c call79 (Ai3 E.1 E.2 H) ?_;rintro v3 u3 Z rfl;exact G.i i<|G.b (W (i+1) _ _ _ cV (l2.trans Z) ⟨oV,rfl⟩ oV)
 obtain rfl:i=d.length:=oV;exact G.lF d.length d.length<|G.r (.int .i64 0) ⟨rfl,rfl⟩
end
end Go.Proofs.YtnafchoihfnkeaaGreatDoor
