/- Parts of one proof, joined by a program. -/
import Derived.Test.YtemmheaocgmebaaGreatDoorW07
import Derived.RangeFuncSeq
import Derived.RangeFuncGives
import Derived.RangeFuncIn
import Derived.OrdersIn
import Derived.OwnWalkIn
set_option linter.defProp false
set_option linter.unusedVariables false
set_option linter.unusedSimpArgs false
set_option linter.unusedSectionVars false
set_option maxHeartbeats 16000000
namespace Go.Proofs.YtemmheaocgmebaaGreatDoor
open Go.Proofs.Tryz
open Go.RowKit Go.MapKept
def A92:=@List.getElem?_zipIdx
def A6v:=@List.mem_append_right
def A6f:=@List.pairwise_singleton
def A9x:=@List.mem_of_mem_erase
def A3a:=@List.erase_cons_head
def A5e:=@List.erase_cons_tail
def A5l:=@List.ext_getElem
section
variable {F:List Al}{T:zC}{f:Al}{i n:Nat}{lab:Int}{ss:zW}{x:Par×Rat}
noncomputable def Jf (ss:zW)(i:Nat)(f:Al):Option (Par×Rat) :=
 if f.2.1=2 then some (((i:Int),ss.getD f.1 []),1) else if ss.getD f.1 [] = []\/ss.getD f.1 [] = [48] then none else some (((i:Int),[]),Lk (ss.getD f.1 []))
noncomputable def Dx (F:List Al)(ss:zW)(n:Nat):List (Par×Rat):=(F.zipIdx.take n).filterMap fun p=>Jf ss p.2 p.1
def Ana (F:List Al)(ss:zW):Dx F ss 0 = []:=rfl
def Aaj (h:F[i]?=some f):F.zipIdx[i]?=some (f,i):=by
 rw[A92,h];simp
def Aab (h:F[i]?=some f):Dx F ss (i+1)=Dx F ss i++(Jf ss i f).toList:=by
 unfold Dx;rw[A1n,Aaj h,List.filterMap_append];cases e:Jf ss i f with
 |none=>simp[e]
 |some x=>simp[e]
def F9 :x∈Dx F ss n↔∃ i f,i<n/\F[i]?=some f/\Jf ss i f=some x:=by
 unfold Dx;rw[Baa];constructor
 ·rintro⟨⟨f,i⟩,hm,he⟩;obtain⟨j,h,e⟩:=A2y hm;rw[A1e]at h;rw[A7w,List.getElem_zipIdx]at e;cases e;refine⟨j,_,oV,A01 (by have:=h;simp at this;omega),?_⟩;simpa using he
 rintro⟨i,f,hi,hf,he⟩;refine⟨(f,i),?_,he⟩;have:(F.zipIdx.take n)[i]?=some (f,i):=by rw[A3y,if_pos hi,Aaj hf]
 exact A1k this
def Ow (h:Jf ss i f=some x):x.1.1=(i:Int):=by
 unfold Jf at h;split at h
 ·cases h;rfl
 split at h
 ·cases h
 cases h;rfl
def Nb (F:List Al)(ss:zW):∀ n,n<=F.length->((Dx F ss n).map (·.1)).Nodup
 |0,_=>by rw[Ana];simp
 |n+1,hn=>by
  rw[Aab (A01 (show n<F.length by omega)),A1i];rw[A4p];refine⟨Nb F ss n oV,?_,fun a m b t e=>?_⟩
  ·cases Jf ss n F[n]<;>simp
  subst e;obtain⟨x,z,rfl⟩:=A1b.1 m;obtain⟨i,f,hi,_,u⟩:=F9.1 z;obtain⟨y,C,h⟩:=A1b.1 t;have j:Jf ss n F[n]=some y:=by simpa using C
  have:=Ow u;have:=Ow j;rw[h]at this;omega
def S3 (hF:Da T F lab)(u:Bw T ss)(m:f∈F)(C:f.2.1≠2)(h0:ss.getD f.1 []≠[]):SmW (Lk (ss.getD f.1 []))/\Ae (Lk (ss.getD f.1 []))=ss.getD f.1 []:=by
 obtain⟨n,k,E,j,_⟩:=hF.ok f m;have t:=Vz hF u m;have e:ss.getD f.1 []=ss[f.1]:=by simp[A02,A01 t]
 have z:=u.val f.1 _ _ E (A01 t);rw[<-e]at z;rcases j with ⟨_,rfl,_⟩|⟨h,_⟩
 ·exact Hz z h0
 exact absurd h C
def Um {t:zB}(h:Ae (Lk t)=t):Lk t=0↔t = [48]:=by
 constructor
 ·intro e;rw[<-h,e];exact Fz
 intro e;refine A3m fun j=>?_;exact Sf j (h.trans e)
theorem An5 (hF:Da T F lab)(ht:Bw T ss)(hx:x∈Dx F ss n):x.2≠0/\∃ a:Nat,(Fh F lab ss)[a]?=some (some (some x)):=by
 obtain⟨i,f,_,hf,hv⟩:=F9.1 hx;have hm:=A1k hf;have hl:=Qq hF ht hf;unfold Jf at hv;unfold I3 at hl;split at hv
 ·rename_i h2;cases hv;rw[if_pos h2]at hl;exact⟨(by decide:(1:Rat)≠0),_,hl⟩
 ·rename_i h2;split at hv
  ·cases hv
  ·rename_i h0;cases hv;rw[if_neg h2,if_neg (fun e=>h0 (.inl e))]at hl;refine⟨fun e=>h0 (.inr ?_),_,hl⟩;exact (Um (S3 hF ht hm h2 (fun e=>h0 (.inl e))).2).1 e
noncomputable def Ax2 (lab:Int)(ss:zW):List (Par×Rat):=if 0<=lab/\ss.getD lab.toNat []≠[48] then [((-1,[]),Lk (ss.getD lab.toNat []))] else []
def As8 (hF:Da T F lab)(J:Bw T ss)(K:-1<=lab){a:Nat}(h:(Fh F lab ss)[a]?=some (some (some x)))(E:x.2≠0)(u:∀ l:Nat,lab=(l:Int)->ss.getD l [] = [48]->Lk (ss.getD l [])=0):x∈Ax2 lab ss++Dx F ss F.length:=by
 have t:a<ss.length:=by
  obtain⟨C,_⟩:=A05.1 h;rw[G3]at C;exact C
 have m:ss.getD a []=ss[a]:=by simp[A02,A01 t]
 rw[Hg (w:=ss[a]) (A01 t)]at h;simp only[A1f]at h;by_cases j:(a:Int)=lab
 ·unfold Gm Sy at h;rw[if_pos j]at h;split at h
  ·cases h
  cases h;refine A24 _ ?_;unfold Ax2;have z:ss[a]≠[48]:=fun e=>E (by
   have:=u a j.symm;rw[m]at this;exact this e)
  rw[<-j,A23,m,if_pos ⟨oV,z⟩];exact A12.2 rfl
 rcases Gn (F:=F) (w:=ss[a]) j with e|⟨i,f,g1,g2,H⟩
 ·rw[e]at h;cases h
 rw[H]at h;refine A6v _ (F9.2 ⟨i,f,(A05.1 g1).1,g1,?_⟩);have I:=A1k g1;unfold I3 at h;unfold Jf;rw[g2,m];split at h
 ·rename_i h2;cases h;rw[if_pos h2]
 rename_i h2;split at h
 ·split at h<;>cases h
 rename_i h0;cases h;rw[if_neg h2,if_neg];rintro (e|e)
 ·exact h0 e
 refine E ?_;have:=S3 hF J I h2 (by rw[g2,m];exact h0);rw[g2,m]at this;exact (Um this.2).2 e
end
section
variable {F:List Al}{R:List Br}{T:zC}{i:Nat}{lab:Int}{ss:zW}{tv v:Value}{u:PH}
structure Mv (u:PH)(v tv:Value)(T:zC)(R:List Br)(F:List Al)(lab:Int)(ss:zW):Prop where
 sch:H5 u v T R F lab
 ok:Bl u T R F lab
 lst:Ac u tv 1 (ss.map nmV)
 fit:Bw T ss
def Mv.mono {u j:PH}{v tv:Value}{T:zC}{R:List Br}{F:List Al}{lab:Int}{ss:zW}(h:Mv u v tv T R F lab ss)(e:PH.le u j):Mv j v tv T R F lab ss :=
 ⟨h.sch.mono e,h.ok.mono e,h.lst.mono e,h.fit⟩
def Mv.lt (h:Mv u v tv T R F lab ss):∀ l:Nat,lab=(l:Int)->l<ss.length:=fun l e=>by
 obtain⟨n,j⟩:=h.ok.l2 l e;obtain⟨m,_⟩:=A05.1 j;have:=h.fit.len;omega
def M5 {a:zP}{n c:Nat}(h:Ac u (.slice a n c) 1 (ss.map nmV))(hi:i<ss.length):∃ b off,a=some ⟨b,off,none⟩/\ElP u b (off+i*1) (zS (ss.getD i [])):=by
 have e:ss.getD i []=ss[i]:=by simp[A02,A01 hi]
 rw[e];exact Ac.at' h (j:=i) (by simp[nmV,A01 hi])
def Lm (h:Mv u v tv T R F lab ss) :
 Fn0 prog 89 [v,tv] u fun r _=>r=zO:=by
 have H:=fun (Q:PH) (l:PH.le u Q)=>Adn (h.sch.mono l) (h.ok.mono l);obtain⟨⟨xa,xc,xb,xd,xe,xf,rfl,E,X,V⟩,ok,C,hT⟩:=h;obtain⟨ya,U,rfl⟩:=C.opn;rw[A03]at C⊢;have P:=hT.len;have t2:=ok.t2;refine Fn0.o func89<|G.c call98 (H u (PH.le_refl _)) ?_;rintro v1 u1 Y rfl;refine G.nF 0 0<|G.nF ss.length T.length<|G.l (ι:=Nat) (fun i=>[(2,.p 0 0),(19,sV ya ss.length U),(20,iV ss.length),(21,iV i)])
  (fun _=>[(0,⟨30,[sV xa T.length xc,sV xb R.length xd,sV xe F.length xf,iV lab]⟩)])
  (fun i Q m'=>i<=ss.length/\m'=PH.mt) (fun i=>ss.length-i) 0 ⟨oV,rfl⟩ ?_
 rintro J i W u2 m2 l2 ⟨hi,rfl⟩;have z:=Y.trans l2;by_cases m:i<ss.length
 ·refine G.lT i ss.length ?_;obtain⟨b,off,rfl,e⟩:=M5 (C.mono z) m;refine G.N ss.length U m e ?_;have t:T[i]?=some T[i]:=A01 oV;have I:=ok.att.kind T[i] (A09 oV);have K:=hT.val i _ _ t (A01 m);rw[show ss[i]=ss.getD i [] by simp[A02,A01 m]]at K;obtain⟨ba,oa,rfl,L⟩:=Ac.at' (E.mono z) (j:=i) (e:=D9 T[i]) (by simp[t]);generalize T[i]=x at t I K L;refine G.n T.length xc L<|G.c call158 (Ax7 I.1 I.2 K) ?_;rintro v3 u3 Z rfl;exact G.i i<|G.b (W (i+1) _ _ _ cV (l2.trans Z) ⟨oV,rfl⟩ oV)
 obtain rfl:i=ss.length:=oV;exact G.lF ss.length ss.length<|G.r zO ⟨rfl,rfl⟩
def Aig {u m:PH}{v cap:Value}{T:List Al}{fid:Nat}(p:Al->Bool)(r:Bool)(z:T.any p=r)(h:Ac u v 3 (T.map Cm))(H:T.length<=1000000)
 (j:∀ args w,(callFunc fid args).run prog w=.ok (.enter fid args) w) (E:∀ f∈T,∀ C,PH.le u C->FnK prog fid [Cm f,cap] C m fun v _=>v=.bool (p f)) :
 FnK prog 159 [v,.func (.func fid) #[] #[cap]] u m fun I _=>I=.bool r:=by
 obtain⟨a,c,rfl⟩:=h.opn;refine FnK.of func159 kV kV<|G.callK _ _ kV call219 (Alt (cap:=cap) p h H j E) ?_;rintro L K J rfl;cases r with
 |true =>
  obtain⟨x,t,hp⟩:=A5h.1 z;have:0<=Ad1 p T:=by
   unfold Ad1;cases e:T.findIdx? p with
   |none=>exact absurd hp (by rw[List.findIdx?_eq_none_iff.1 e x t];simp)
   |some k=>simp only;omega
  exact G.hT (Ad1 p T) 0<|G.r zT ⟨rfl,rfl⟩
 |false =>
  have h0:=A6p.1 z;rw[Abp fun x t=>by simpa using h0 x t];exact G.hF (-1) 0<|G.r zL ⟨rfl,rfl⟩
def Axg {u m:PH}{f:Al}{b:Nat}{E:zP}{j:Nat}(I:ElP m b 0 (.slice E ss.length j))(H:Ac u (.slice E ss.length j) 1 (ss.map nmV))(h:f.1<ss.length) :
 FnK prog 160 [Cm f,.pointer (zA b)] u m fun v _=>v=.bool (Pp ss f):=by
 obtain⟨f1,f2,t⟩:=f;simp only at h;refine FnK.of func160 kV kV ?_;unfold Pp;simp only;by_cases z:f2=1
 ·subst z;refine G.eT (1:Nat) 1 ?_;by_cases C:t=1
  ·subst C;refine G.eT (1:Nat) 1<|G.v none I ?_;obtain⟨J,off,rfl,e⟩:=M5 H h;refine G.N ss.length j h e ?_;by_cases h0:ss.getD f1 [] = []
   ·exact G.q (ss.getD f1 []) [] h0<|G.r zT ⟨rfl,by rw[h0];rfl⟩
   refine G.w (ss.getD f1 []) [] h0 ?_;exact G.r zL ⟨rfl,by
    cases hx:ss.getD f1 [] with
    |nil=>exact absurd hx h0
    |cons x y=>rfl⟩
  exact G.eF t 1<|G.r zL ⟨rfl,by simp[C]⟩
 exact G.eF f2 1<|G.r zL ⟨rfl,by simp[z]⟩
def Yv (h:Mv u v tv T R F lab ss) :
 Fn0 prog 90 [v,tv] u fun r _=>r=.bool (G4 F lab ss):=by
 have E:=Lm h;have Q:=h.lt;obtain⟨⟨xa,xc,xb,xd,xe,xf,rfl,a0,Z,J⟩,ok,I,hT⟩:=h;obtain⟨H,t,rfl⟩:=I.opn;rw[A03]at I E⊢;have f2:=ok.f2;refine Fn0.o func90<|G.c call89 E ?_;rintro v1 X U rfl;refine G.nF 0 0 ?_;have j:∀ (m:PH) (b:Nat),ElP m b 0 (.slice H ss.length t)->∀ V,PH.le u V->FnK prog 159 [.slice xe F.length xf,.func (.func 160) #[] #[.pointer (zA b)]] V m fun v' _=>v'=.bool (F.any (Pp ss)):=fun m b hb V l =>
  Aig (Pp ss) _ rfl (J.mono l) oV call160 fun f hf a1 l'=>Axg hb (I.mono (l.trans l')) (Vz ok.feat hT hf)
 have z:∀ b:Nat,ElP (PH.mt.upd b (.cells [Value.slice H ss.length t].toArray 51 (0,0))) b 0 (.slice H ss.length t):=fun b=>My (xs:=[.slice H ss.length t]) (Ab _ _ _) rfl;unfold G4;by_cases W:lab<0
 ·refine G.hF lab 0<|G.pub 1 51 [.slice H ss.length t] kV kV ?_;intro b K L;refine G.callK _ _ kV call159 (j _ b (z b) X U) ?_;rintro v2 u2 l2 rfl;rw[decide_eq_false oV];cases F.any (Pp ss) with
  |true =>
   exact G.drop PH.mt kV (PH.mt_le _)<|G.r zL ⟨rfl,rfl⟩
  |false =>
   exact G.drop PH.mt kV (PH.mt_le _)<|G.r zT ⟨rfl,rfl⟩
 obtain⟨l,rfl⟩:∃ l:Nat,lab=(l:Int):=⟨lab.toNat,oV⟩;have C:=Q l rfl;rw[decide_eq_true oV,A23];refine G.hT l 0 ?_;obtain⟨Y,off,rfl,e⟩:=M5 (I.mono U) C;refine G.N ss.length t C e ?_;by_cases h0:ss.getD l [] = []
 ·exact G.q (ss.getD l []) [] h0<|G.r zL ⟨rfl,by rw[h0];rfl⟩
 have P:(ss.getD l []).isEmpty=false:=by
  cases hx:ss.getD l [] with
  |nil=>exact absurd hx h0
  |cons x y=>rfl
 rw[P];refine G.w (ss.getD l []) [] h0<|G.pub 1 51 [.slice (some ⟨Y,off,none⟩) ss.length t] kV kV ?_;intro b K L;refine G.callK _ _ kV call159 (j _ b (z b) X U) ?_;rintro v2 u2 l2 rfl;cases F.any (Pp ss) with
 |true =>
  exact G.drop PH.mt kV (PH.mt_le _)<|G.r zL ⟨rfl,rfl⟩
 |false =>
  exact G.drop PH.mt kV (PH.mt_le _)<|G.r zT ⟨rfl,rfl⟩
def Amh (h:Mv u v tv T R F lab ss) :
 Fn0 prog 136 [v,tv] u fun r _=>r=if lab<0\/ss.getD lab.toNat [] = [] then .tuple #[zS [48],zL] else .tuple #[zS (ss.getD lab.toNat []),zT]:=by
 have t:=Lm h;have C:=h.lt;obtain⟨⟨xa,xc,U,V,W,X,rfl,J,I,H⟩,ok,z,hT⟩:=h;obtain⟨Y,E,rfl⟩:=z.opn;rw[A03]at z t⊢;refine Fn0.o func136<|G.c call89 t ?_;rintro Q P K rfl;refine G.nF 0 0 ?_;by_cases m:lab<0
 ·exact G.lT lab 0<|G.r (.tuple #[zS [48],zL]) ⟨rfl,by rw[if_pos (.inl m)]⟩
 obtain⟨l,rfl⟩:∃ l:Nat,lab=(l:Int):=⟨lab.toNat,oV⟩;have j:=C l rfl;rw[A23];refine G.lF l 0 ?_;obtain⟨L,off,rfl,e⟩:=M5 (z.mono K) j;refine G.N ss.length E j e ?_;by_cases h0:ss.getD l [] = []
 ·exact G.q (ss.getD l []) [] h0<|G.r (.tuple #[zS [48],zL]) ⟨rfl,by rw[if_pos (.inr h0)]⟩
 exact G.w (ss.getD l []) [] h0<|G.N ss.length E j e<|G.r (.tuple #[zS (ss.getD l []),zT]) ⟨rfl,by rw[if_neg (fun e=>e.elim oV h0)]⟩
def A0n (h:i<=8):1374926400^i<10^100:=A22 (A10 oV h) jV
def Azz (h:i<8):8*(1374926400^i*343731600)<10^100:=by
 have e:1374926400^i<=1374926400^8:=A10 oV oV;have j:1374926400^8<10^80:=jV
 have m:(10:Nat)^80*100000000000<10^100:=jV
 omega
def Aql (h:Mv u v tv T R F lab ss) :
 Fn0 prog 208 [v,tv] u fun r z=>∃ j m,r=.func (.func 251) #[] #[.pointer (zA j),.pointer (zA m)]/\ElP z j 0 v/\ElP z m 0 tv:=by
 obtain⟨⟨xa,xc,C,E,H,I,rfl,Y,W,V⟩,ok,X,hT⟩:=h;obtain⟨J,K,rfl⟩:=X.opn;rw[A03];have Z:Ag prog 208 [.agg #[.slice xa T.length xc,.slice C R.length E,.slice H F.length I,zI lab],.slice J ss.length K] u PH.mt (fun r z P=>∃ j m,r=.func (.func 251) #[] #[.pointer (zA j),.pointer (zA m)]/\ElP P j 0 (.agg #[.slice xa T.length xc,.slice C R.length E,.slice H F.length I,zI lab])/\ElP P m 0 (.slice J ss.length K)):=by
  refine Ag.o func208<|G.pastI<|G.pub 0 30 [.slice xa T.length xc,.slice C R.length E,.slice H F.length I,zI lab] kV kV ?_;intro j a1 a0;refine G.pub 1 51 [.slice J ss.length K] kV kV ?_;intro m a2 t;have L:j≠m:=fun e=>by subst e;rw[Ab]at t;cases t
  exact G.r (.func (.func 251) #[] #[.pointer (zA j),.pointer (zA m)]) ⟨j,m,rfl,My (xs:=[.slice xa T.length xc,.slice C R.length E,.slice H F.length I,zI lab]) (by rw[Ad _ _ L,Ab]) rfl,My (xs:=[.slice J ss.length K]) (Ab _ _ _) rfl⟩
 refine Fn0.weak Z.giveAll ?_;rintro r z ⟨u1,m1,_,l2,j,m,e,Q,U⟩;exact⟨j,m,e,Q.mono l2,U.mono l2⟩
end
section
variable {F:List Al}{R:List Br}{T:zC}{a:zP}{c k n:Nat}{l:zK}{m m0 u:PH}
def nmA (j:Nat):zB:=[97]++[Zq j]
def nmR (j:Nat):zB:=[114]++[Zq j]
def Axx (h:n<=6):Rc ((List.range n).map nmA):=by
 have e:∀ n:Fin 7,(((List.range n.val).map nmA).all Hn&&decide ((List.range n.val).map nmA).Nodup)=true:=jV
 exact Sc (e ⟨n,oV⟩)
def Ayn (h:n<=6):Rc ((List.range n).map nmR):=by
 have e:∀ n:Fin 7,(((List.range n.val).map nmR).all Hn&&decide ((List.range n.val).map nmR).Nodup)=true:=jV
 exact Sc (e ⟨n,oV⟩)
structure TOK (T:zC):Prop where
 nm:T.map (·.1)=(List.range T.length).map nmA
 kd:∀ a∈T,1<=a.2/\a.2<=3
 le:T.length<=6
def TOK.nil:TOK []:=⟨rfl,fun a e=>by simp at e,mV⟩
def TOK.snoc (h:TOK T)(j:1<=k)(t:k<=3)(C:T.length<6):TOK (T++[(nmA T.length,k)]):=by
 refine⟨?_,fun a z=>?_,gV⟩
 ·rw[A1i,h.nm,A1d,A20,A5d,A1i];rfl
 rcases A1h.1 z with e|e
 ·exact h.kd a e
 obtain rfl:=A12.1 e;exact⟨j,t⟩
structure TOM (N:Nat)(T:zC):Prop extends TOK T where
 lem:T.length<=N
def TOM.nil (N:Nat):TOM N []:=⟨TOK.nil,A1t _⟩
def TOM.snocm {N:Nat}(h:TOM N T)(e:1<=k)(j:k<=3)(z:T.length<N)(t:N<=6):TOM N (T++[(nmA T.length,k)]) :=
 ⟨h.toTOK.snoc e j oV,by rw[A1d,A20];omega⟩
def TOK.att (h:TOK T):Aq4 T:=⟨by rw[h.nm];exact Axx h.le,h.kd⟩
structure LOK (l:zK)(n:Nat):Prop where
 asc:l.Pairwise (· < ·)
 lt:∀ a∈l,a<n
 len:l.length<=n
def LOK.nil:LOK [] 0:=⟨List.Pairwise.nil,fun a e=>by simp at e,mV⟩
def LOK.up (h:LOK l n):LOK l (n+1):=⟨h.asc,fun a e=>by have:=h.lt a e;omega,by have:=h.len;omega⟩
def LOK.snoc (h:LOK l n):LOK (l++[n]) (n+1):=by
 refine⟨A35.2 ⟨h.asc,A6f _ _,fun a j b t=>?_⟩,fun a j=>?_,by simp;have:=h.len;omega⟩
 ·obtain rfl:=A12.1 t;exact h.lt a j
 rcases A1h.1 j with e|e
 ·have:=h.lt a e;omega
 obtain rfl:=A12.1 e;omega
def LOK.zero (h:0<n):LOK [0] n:=⟨A6f _ _,fun a e=>by
 obtain rfl:=A12.1 e;exact h,gV⟩
structure ROK (u:PH)(n:Nat)(R:List Br):Prop where
 nm:R.map (·.1)=(List.range R.length).map nmR
 ne:∀ r∈R,r.2.1≠[]
 ok:∀ r∈R,LOK r.2.1 n
 all:∀ a<n,∃ r∈R,a∈r.2.1
 at':∀ r∈R,Ac u (.slice r.2.2.1 r.2.1.length r.2.2.2) 1 (Ai r.2.1)
def ROK.nil :ROK u 0 []:=⟨rfl,fun a e=>by simp at e,fun a e=>by simp at e,fun a e=>oV,fun a e=>by simp at e⟩
def ROK.mono {u e:PH}{n:Nat}{R:List Br}(h:ROK u n R)(j:PH.le u e):ROK e n R:=⟨h.nm,h.ne,h.ok,h.all,fun r t=>(h.at' r t).mono j⟩
def ROK.snoc {n z:Nat}(h:ROK u n R)(K:n<=z)(I:LOK l z)(H:l≠[])(t:∀ a,n<=a->a<z->a∈l)(E:Ac u (.slice a l.length c) 1 (Ai l)):ROK u z (R++[(nmR R.length,l,(a,c))]):=by
 refine⟨?_,fun r j=>?_,fun r j=>?_,fun a C=>?_,fun r j=>?_⟩
 ·rw[A1i,h.nm,A1d,A20,A5d,A1i];rfl
 ·rcases A1h.1 j with e|e
  ·exact h.ne r e
  obtain rfl:=A12.1 e;exact H
 ·rcases A1h.1 j with e|e
  ·have:=h.ok r e;exact⟨this.asc,fun a C=>by have:=this.lt a C;omega,by have:=this.len;omega⟩
  obtain rfl:=A12.1 e;exact I
 ·rcases A2e a n with e|e
  ·obtain⟨r,j,J⟩:=h.all a e;exact⟨r,A24 _ j,J⟩
  exact⟨_,A6v _ (A12.2 rfl),t a e C⟩
 rcases A1h.1 j with e|e
 ·exact h.at' r e
 obtain rfl:=A12.1 e;exact E
def ROK.rel (h:ROK u n R)(H:n<=6)(z:R.length<=6):Py u n R:=by
 refine⟨by rw[h.nm];exact Ayn z,h.ne,fun r e=>(h.ok r e).lt,fun r e=>by have:=(h.ok r e).len;omega,fun r e k x y C E=>?_,h.all,h.at'⟩;obtain⟨j,rfl⟩:=A05.1 C;obtain⟨t,rfl⟩:=A05.1 E;exact A3n.1 (h.ok r e).asc k (k+1) j t oV
structure FOK (T:zC)(F:List Al)(lab:Int)(a:Nat):Prop where
 feat:Da T F lab
 lt:∀ f∈F,f.1<a
 len:F.length<=a
 l1:-1<=lab
 l2:∀ l:Nat,lab=(l:Int)->l<a/\∃ n,T[l]?=some (n,2)
def FOK.nil :FOK T [] (-1) 0:=⟨⟨fun f e=>by simp at e,mV⟩,fun f e=>by simp at e,mV,oV,fun l h=>oV⟩
def FOK.skip {lab:Int}{a:Nat}(h:FOK T F lab a):FOK T F lab (a+1):=⟨h.feat,fun f j=>by have:=h.lt f j;omega,by have:=h.len;omega,h.l1,fun l t=>by
 obtain⟨z,e⟩:=h.l2 l t;exact⟨oV,e⟩⟩
def FOK.lab {lab:Int}{a:Nat}{n:zB}(h:FOK T F lab a)(z:T[a]?=some (n,2)):FOK T F (a:Int) (a+1):=by
 refine⟨⟨fun f e=>?_,h.feat.nodup⟩,fun f e=>by have:=h.lt f e;omega,by have:=h.len;omega,oV,fun l E=>?_⟩
 ·obtain⟨n,k,j,t,C⟩:=h.feat.ok f e;exact⟨n,k,j,t,by have:=h.lt f e;omega⟩
 obtain rfl:l=a:=oV;exact⟨oV,n,z⟩
def FOK.put {lab:Int}{a k:Nat}{n:zB}{g:Nat×Nat}(h:FOK T F lab a)(z:T[a]?=some (n,k))(C:(g.1=1/\k=2/\g.2<=1)\/(g.1=2/\k=3/\g.2=0)):FOK T (F++[(a,g)]) lab (a+1):=by
 refine⟨⟨fun f j=>?_,?_⟩,fun f j=>?_,by simp;have:=h.len;omega,h.l1,fun l E=>?_⟩
 ·rcases A1h.1 j with e|e
  ·exact h.feat.ok f e
  obtain rfl:=A12.1 e;refine⟨n,k,z,C,fun e=>?_⟩;have:=(h.l2 a e.symm).1;omega
 ·rw[A1i];refine A4p.2 ⟨h.feat.nodup,mV,fun x H y I=>?_⟩;obtain⟨f,j,rfl⟩:=A1b.1 H;have:=h.lt f j;simp at I;omega
 ·rcases A1h.1 j with e|e
  ·have:=h.lt f e;omega
  obtain rfl:=A12.1 e;show a<a+1;omega
 obtain⟨J,t⟩:=h.l2 l E;exact⟨oV,t⟩
def Aw6 {lab:Int}(hT:TOK T)(j:ROK u T.length R)(hF:FOK T F lab T.length)(h0:0<T.length)(h:0<R.length)(e:R.length<=6):Bl u T R F lab :=
 ⟨hT.att,j.rel hT.le e,hF.feat,h0,by have:=hT.le;omega,h,e,by have:=hF.len;have:=hT.le;omega,hF.l1,fun l t=>(hF.l2 l t).2⟩
def Acx (a:zP)(c:Nat)(T:zC):Arr:=⟨.slice a T.length c,96,2,T.map D9⟩
def Zn (a:zP)(c:Nat)(R:List Br):Arr:=⟨.slice a R.length c,98,2,R.map Hs⟩
def W3 (a:zP)(c:Nat)(F:List Al):Arr:=⟨.slice a F.length c,100,3,F.map Cm⟩
def Agt (a:zP)(c:Nat)(l:zK):Arr:=⟨.slice a l.length c,3,1,Ai l⟩
def Ath :(Acx a c T).At m0 m=Af m0 m (.slice a T.length c) 96 2 (T.map D9):=rfl
theorem Aj5 :(Zn a c R).At m0 m=Af m0 m (.slice a R.length c) 98 2 (R.map Hs):=rfl
def Acb :(W3 a c F).At m0 m=Af m0 m (.slice a F.length c) 100 3 (F.map Cm):=rfl
def Aca :(Agt a c l).At m0 m=Af m0 m (.slice a l.length c) 3 1 (Ai l):=rfl
def Ak2 (x:zB×Nat):A9 2 [D9 x]:=by
 intro e h;simp at h;subst h;exact⟨rfl,fun y j=>by simp[D9,Value.cells]at j;rcases j with rfl|rfl<;>rfl⟩
def Sh (x:Br):A9 2 [Hs x]:=by
 intro e h;simp at h;subst h;exact⟨rfl,fun y j=>by simp[Hs,Value.cells]at j;rcases j with rfl|rfl<;>rfl⟩
def Kg (x:Al):A9 3 [Cm x]:=by
 intro e h;simp at h;subst h;exact⟨rfl,fun y j=>by simp[Cm,Value.cells]at j;rcases j with rfl|rfl|rfl<;>rfl⟩
end
section
variable {A T post:zK}{i x y:Nat}{listed:Array Bool}{o:Oper}{s s0:S}
variable [Cl] [Co]
section
variable {P:Program} {id:Nat} {ops:Array Oper} {dr:Bool} {Fin:S->PH->PH->Prop} {c:Cx} {Q:Exit->Act->World->Prop}
def Ob.append {l2:zK}:∀ {e:zK} {s:S} {u m:PH},Ob P id ops dr (fun s u m=>Ob P id ops dr Fin l2 s u m) e s u m->Ob P id ops dr Fin (e++l2) s u m
 |[],s,u,m,h=>by
  cases h with
  |nil h=>exact h
 |i::e,s,u,m,h=>by
  cases h with
  |auto ho hg hd he hl=>exact .auto ho hg hd he hl.append
  |skip ho hg hd hl=>exact .skip ho hg hd hl.append
  |ask ho hg hd hv hs hal hw hl=>exact .ask ho hg hd hv hs hal hw hl.append
  |big ho hg hd hv hs hf hk hw hl=>exact .big ho hg hd hv hs hf hk hw fun v C z j t=>(hl v C z j t).append
def Ob.fin {e:S->PH->PH->Prop}(j:∀ s u m,Fin s u m->e s u m):∀ {l:zK} {s:S} {u m:PH},Ob P id ops dr Fin l s u m->Ob P id ops dr e l s u m
 |[],s,u,m,h=>by
  cases h with
  |nil h=>exact .nil (j _ _ _ h)
 |i::l1,s,u,m,h=>by
  cases h with
  |auto ho hg hd he hl=>exact .auto ho hg hd he (hl.fin j)
  |skip ho hg hd hl=>exact .skip ho hg hd (hl.fin j)
  |ask ho hg hd hv hs hal hw hl=>exact .ask ho hg hd hv hs hal hw (hl.fin j)
  |big ho hg hd hv hs hf' hk hw hl=>exact .big ho hg hd hv hs hf' hk hw fun v E C t z=>(hl v E C t z).fin j
structure Km (ops:Array Oper)(listed:Array Bool)(T:zK):Prop where
 sz:listed.size=ops.size
 mem:∀ i,i<ops.size->(listed.getD i true=false↔i∈T)
 lt:∀ i∈T,i<ops.size
 nd:T.Nodup
 cl:Ag7 ops listed
theorem Tz :i∈Region.ready .any ops listed↔i<ops.size/\listed.getD i true=false/\∃ o,ops[i]?=some o/\∀ e∈o.after,Region.binds .any e=true->listed.getD e.on false=true:=by
 simp only[Region.ready,A7a,A6q,A1m,A3w];refine and_congr_right fun hi=>and_congr_right fun _=>?_;have h:ops[i]?=some ops[i]:=A2v hi;rw[h];simp only[A4c,A4w,Bab];constructor
 ·grind
 grind
theorem Km.no (h:Km ops listed T)(t:x∈T):listed.getD x false=true->False:=by
 intro e;have j:=h.lt x t;have:=(h.mem x j).2 t;have z:x<listed.size:=by grind
 simp only[A2t,A2v z,A4w]at e this;rw[this]at e;cases e
theorem Km.next {A B:zK}(h:Km ops listed (A++i::B))(X:ops[i]?=some o)(R:∀ e∈o.after,Region.binds .any e=true->listed.getD e.on false=true):Km ops (listed.setIfInBounds i true) (A++B):=by
 obtain⟨K,hT,F,W,H⟩:=h;have C:(A++B).Nodup/\i∉A++B:=by grind
 refine⟨by simpa using K,fun j z=>?_,fun j z=>F j ?_,C.1,?_⟩
 ·by_cases t:j=i
  ·simp_all
  have:=hT j z;simp only[A2t,A2m (fun h=>t h.symm)]at this⊢;rw[this];simp[t]
 ·grind
 intro j z o' J e V U;have E:∀ k,listed.getD k false=true->(listed.setIfInBounds i true).getD k false=true:=by
  intro k L;by_cases I:k=i
  ·grind
  simp only[A2t,A2m (fun h=>I h.symm)]at L⊢;exact L
 by_cases t:j=i
 ·grind
 refine E _ (H j ?_ o' J e V U);simp only[A2t,A2m (fun h=>t h.symm)]at z⊢;exact z
def Km.swaps (h:Km ops listed T)(F:∀ x∈A,x∈T)(I:ops[i]?=some o)(C:∀ e∈o.after,Region.binds .any e=true->listed.getD e.on false=true)(H:∀ x∈A,Ge ops s0 x i=true):∀ x∈A,Aga ops s0 x i=true:=by
 intro x E;have hp:=H x E;unfold Ge at hp;simp only[A1m,A4b]at hp;have z:∀ o',ops[i]?=some o'->∀ e∈o'.after,Region.binds .any e=true->listed.getD e.on false=true:=fun o' t=>by rw[I]at t;obtain rfl:=A28 t;exact C
 rcases hp.2 with (j|j)|j
 ·exact (h.no (F x E) (Xi z j)).elim
 ·exact j
 exact (h.no (F x E) (Ib h.cl ops.size i z j)).elim
def Km.any {s0:S}(e:On s0)(t:(List.range ops.size).all (Kd ops)=true)(hF:∀ s u m ρ a w,Fin s u m->Rel c s u m ρ a w->Q .normal a w){n:Nat}{T:zK}{listed:Array Bool}{s:S}{u m:PH}{ρ:Nat->Nat}{a:Act}{w:World}(h:Km ops listed T)(E:T.length=n)
 (C:T.Pairwise (fun x y=>Ge ops s0 x y=true)) (j:Gb ops s0 s) (z:Ob P id ops true Fin T s u m) (F:Rel c s u m ρ a w):Go.wpAny P .any ops Q n listed a w :=
 Ob.wpAny e t hF n T listed E h.sz h.mem h.lt h.nd h.cl C j z F
def Km.perm {T e:zK}(h:Km ops listed T)(hp:T.Perm e):Km ops listed e :=
 ⟨h.sz,fun i hi=>(h.mem i hi).trans hp.mem_iff,fun i hi=>h.lt i (hp.mem_iff.2 hi),hp.nodup_iff.1 h.nd,h.cl⟩
theorem Km.first {t:Nat}(h:Km ops listed (t::T))(E:(List.range ops.size).all (Kd ops)=true)(L:∀ x∈T,dir ops t x=false):t∈Region.ready .any ops listed:=by
 have hp:=h.lt t mV;refine Tz.2 ⟨hp,(h.mem t hp).2 mV,ops[t],A2v hp,fun e I F=>?_⟩;rw[A1o]at E;have j:=E t (by simpa using hp);unfold Kd at j;rw[A2v hp]at j;simp only[A1o]at j;have:=j e (by simpa using I);simp only[F,A72,A80,A1m]at this;have z:e.on<ops.size:=A8f▸this.1;have K:e.on≠t:=fun h=>by rw[h]at this;simp at this
 have H:dir ops t e.on=true:=by
  unfold dir;rw[A2v hp];simp only[A5h,A1m];exact⟨e,by simpa using I,F,mV⟩
 cases hl:listed.getD e.on true with
 |true =>
  have J:e.on<listed.size:=by have:=h.sz;omega
  simp only[A2t,A2v J]at hl⊢;exact hl
 |false =>
  have C:=(h.mem e.on z).1 hl;rcases A1g.1 C with C|C
  ·grind
  grind
def Gq (h:Ge ops s0 x y=true):dir ops x y=false:=by
 unfold Ge at h;simp only[A1m,A3w]at h;exact h.1.1
def Qh (P:Program)(id:Nat)(ops:Array Oper)(post:zK)(Fin:S->PH->PH->Prop):Nat->zK->S->PH->PH->Prop
 |0,_,s,u,m=>Ob P id ops true Fin post s u m
 |n+1,A,s,u,m=>∀ a∈A,(∀ b∈A,b≠a->bef ops ops.size a b=false)->Ob P id ops true (Qh P id ops post Fin n (A.erase a)) [a] s u m
theorem Ob.wpAnyT (L:On s0)(hE:(List.range ops.size).all (Kd ops)=true)(hF:∀ s u m ρ a w,Fin s u m->Rel c s u m ρ a w->Q .normal a w){post A0:zK}(Z:∀ y∈post,∀ a∈A0,bef ops ops.size y a=true)(a4:∀ a∈A0,∀ y∈post,dir ops a y=false) :
 ∀ (n k:Nat) (A pre:zK) (listed:Array Bool) {s:S} {u m:PH} {ρ:Nat->Nat} {a:Act} {w:World},A.length=k->(∀ x∈A,x∈A0)->A.Pairwise (fun x y=>dir ops x y=false)->pre.length+(k+post.length)=n->Km ops listed (pre++(A++post)) ->
  (pre++post).Pairwise (fun x y=>Ge ops s0 x y=true)->(∀ x∈pre,∀ y∈A,Ge ops s0 x y=true)->Gb ops s0 s->Ob P id ops true (Qh P id ops post Fin k A) pre s u m->Rel c s u m ρ a w->Go.wpAny P .any ops Q n listed a w:=by
 intro n;induction n with
 |zero =>
  intro k A pre listed s u m ρ a w Y K V R j hP I F hO hr;obtain rfl:k=0:=oV;obtain rfl:=A2l Y;exact j.any L hE hF (by simp only[A1d,A30];omega) hP F (Ob.append hO) hr
 |succ n ih =>
  intro k A pre listed s u m ρ a w Y K V R j hP I F hO hr;cases A with
  |nil =>
   simp at Y;subst Y;exact j.any L hE hF gV hP F (Ob.append hO) hr
  |cons b A' =>
   obtain⟨k,rfl⟩:∃ k',k=k'+1:=⟨k-1,by simp at Y;omega⟩;refine⟨fun U=>?_,fun i hi=>?_⟩
   ·cases pre with
    |nil =>
     have:=Km.first (t:=b) (T:=A'++post) j hE fun x C=>by
      rcases A1h.1 C with C|C
      ·simp_all
      grind
     rw[U]at this;cases this
    |cons t T' =>
     have:=Km.first (t:=t) (T:=T'++(b::A'++post)) j hE fun x C=>by
      rcases A1h.1 C with C|C
      ·exact Gq (A34 hP (by simp[C]))
      rcases A1h.1 C with C|C
      ·exact Gq (I t mV x C)
      exact Gq (A34 hP (by simp[C]))
     rw[U]at this;cases this
   obtain⟨h1,h2,o,ho,E⟩:=Tz.1 hi;have H:=(j.mem i h1).1 h2;rcases A1h.1 H with H|H
   ·obtain⟨A1,B1,rfl⟩:=A6k H;have z:Km ops listed (A1++i::(B1++(b::A'++post))):=by grind
    have a1:(A1++i::(B1++post)).Pairwise (fun x y=>Ge ops s0 x y=true):=by grind
    have a0:=z.swaps (A:=A1) (s0:=s0) (fun x C=>by simp[C]) ho E fun x C=>(A35.1 a1).2.2 x C i mV;have W:=Ob.bubble L A1 a0 hr.lv F hO;refine wpOp_mono (fun a' w' ⟨s',u',m',ρ',r1,ra,r2⟩=>?_) (W.step (Q:=Q) hr);refine ih (k+1) (b::A') (A1++B1) _ Y K V (by simp at R⊢;omega) (by rw[A2k];exact z.next ho E) ?_ (fun x C y hy=>I x (by simp at C⊢;rcases C with h|h<;>simp[h]) y hy) (F.trans ra) r2 r1
    rw[A2k];exact a1.sublist (List.Sublist.append_left (List.sublist_cons_self i _) A1)
   rcases A1h.1 H with H|H
   ·have a3:(pre++(b::A'++post)).Perm (pre++i::((b::A').erase i++post)):=by
     refine List.Perm.append_left pre ?_;rw[<-A4x];exact (List.perm_cons_erase H).append_right post
    have z:=j.perm a3;have a0:=z.swaps (A:=pre) (s0:=s0) (fun x C=>by simp[C]) ho E fun x C=>I x C i H;have X:∀ b'∈b::A',b'≠i->bef ops ops.size i b'=false:=fun b' a2 a5=>by
     cases e:bef ops ops.size i b' with
     |false=>rfl
     |true=>exact (j.no (x:=b') (by simp at a2⊢;rcases a2 with h|h<;>simp[h]) (Ib j.cl ops.size i (fun o' J=>by rw[ho]at J;obtain rfl:=A28 J;exact E) e)).elim
    have W:=Ob.bubble (B:=[]) L pre a0 hr.lv F (Ob.append (l2:=[i]) (hO.fin fun s u m h=>h i H X));refine wpOp_mono (fun a' w' ⟨s',u',m',ρ',r1,ra,r2⟩=>?_) (W.step (Q:=Q) hr);rw[A1x]at r2;exact ih k ((b::A').erase i) pre _ (by rw[List.length_erase_of_mem H];simp at Y⊢;omega) (fun x C=>K x (A9x C)) (V.sublist List.erase_sublist) oV (z.next ho E) hP (fun x C y hy=>I x C y (A9x hy)) (F.trans ra) r2 r1
   exfalso;exact j.no (x:=b) mV (Ib j.cl ops.size i (fun o' J=>by rw[ho]at J;obtain rfl:=A28 J;exact E) (Z i H b (K b mV)))
def Akn (ops:Array Oper):zK->Bool
 |[]=>true
 |x::l=>l.all (fun y=>!dir ops x y)&&Akn ops l
def W6:∀ {l:zK},Akn ops l=true->l.Pairwise (fun x y=>dir ops x y=false)
 |[],_=>.nil
 |x::l,h=>by
  unfold Akn at h;rw[A1m,A1o]at h;exact .cons (fun y e=>by simpa using h.1 y e) (W6 h.2)
def Alo (ops:Array Oper)(s:S)(pre A post:zK):Bool :=
 Nat.beq (pre.length+(A.length+post.length)) ops.size&&(List.range ops.size).all (fun i=>(pre++(A++post)).contains i)&&(pre++(A++post)).all (fun i=>Nat.blt i ops.size)&&decide ((pre++(A++post)).Nodup)&&Qp ops s (pre++post) &&
  pre.all (fun x=>A.all fun y=>Ge ops s x y)&&Akn ops A&&(List.range ops.size).all (Kd ops)&&post.all (fun y=>A.all fun a=>bef ops ops.size y a)&&A.all (fun a=>post.all fun y=>!dir ops a y)
def Ob.uncons {l:zK}{u m:PH}(h:Ob P id ops dr Fin (i::l) s u m):Ob P id ops dr (fun s u m=>Ob P id ops dr Fin l s u m) [i] s u m:=by
 cases h with
 |auto ho hg hd he hl=>exact .auto ho hg hd he (.nil hl)
 |skip ho hg hd hl=>exact .skip ho hg hd (.nil hl)
 |ask ho hg hd hv hs hal hw hl=>exact .ask ho hg hd hv hs hal hw (.nil hl)
 |big ho hg hd hv hs hf hk hw hl=>exact .big ho hg hd hv hs hf hk hw fun v z t e j=>.nil (hl v z t e j)
def Qh.one {u m:PH}(h:Ob P id ops true Fin (x::post) s u m):Qh P id ops post Fin 1 [x] s u m:=fun a e _=>by
 obtain rfl:a=x:=by simpa using e
 rw[A3a];exact h.uncons
def Qh.two {u m:PH}(h:Ob P id ops true Fin (x::y::post) s u m)(j:bef ops ops.size y x=false->Ob P id ops true Fin (y::x::post) s u m):Qh P id ops post Fin 2 [x,y] s u m:=fun a t z=>by
 by_cases e:a=x
 ·subst e;rw[A3a];exact h.uncons.fin fun _ _ _ h=>.one h
 obtain rfl:a=y:=by simpa[e] using t
 rw[A5e (by simpa using fun h=>e h.symm),A3a];exact (j (z x mV fun h=>e h.symm)).uncons.fin fun _ _ _ h=>.one h
def Ru (P:Program)(id:Nat)(ops:Array Oper):zK->S->Option S
 |[],s=>some s
 |i::l,s=>match ops[i]? with
  |some o=>match Fb s o with
   |true=>match gv s ops o with
    |some true=>match eff P (id*1000+i) s o.op with
     |some (x,hw)=>Ru P id ops l ((s.put o.dst x).setb hw)
     |none=>none
    |some false=>Ru P id ops l (s.put o.dst (.v undef))
    |none=>none
   |false=>none
  |none=>none
def Ob.autos:∀ {l:zK} {s e:S} {u m:PH},Ru P id ops l s=some e->Fin e u m->Ob P id ops dr Fin l s u m
 |[],s,e,u,m,h,hf=>by
  unfold Ru at h;cases h;exact .nil hf
 |i::l,s,e,u,m,h,hf=>by
  unfold Ru at h;split at h
  ·rename_i o ho;split at h
   ·rename_i hd;split at h
    ·rename_i hg;split at h
     ·rename_i x hw he;exact .auto ho hg hd he (Ob.autos h hf)
     cases h
    ·rename_i hg;exact .skip ho hg hd (Ob.autos h hf)
    cases h
   cases h
  cases h
end
section
variable {P:Program} {fn:Func} {Post:Ce}
theorem Sym.reg_tree (Y:P.follows .mixedOrders=true){id:Nat}{ops:Array Oper}{pre A post:zK}{s:S}(E:Alo ops s pre A post=true){k:List KI}{u m:PH}
 (h:Ob P id ops true (Qh P id ops post (Hm P fn Post k) A.length A) pre s u m):Hm P fn Post (.code (.region id ops true)::k) s u m:=by
 intro c ρ a w H t;unfold Alo at E;simp only[A1m]at E;obtain⟨⟨⟨⟨⟨⟨⟨⟨⟨z,L⟩,I⟩,C⟩,R⟩,J⟩,U⟩,V⟩,K⟩,e⟩:=E;have z:=A1y z;rw[A1o]at L I J K e;have C:=of_decide_eq_true C;refine wp_region_any Y ?_;refine Ob.wpAnyT (c:=c) (A0:=A) t.lv V (fun s u m ρ a w W t=>W c ρ a w H t) (fun y j a F=>by have:=K y j;rw[A1o]at this;exact this a F) (fun a F y j=>by have:=e a F;rw[A1o]at this;simpa using this y j) _ A.length A pre _ rfl (fun _ h=>h) (W6 U) z
  ⟨mV,fun i hi=>?_,fun i hi=>A8f▸I i hi,C,fun i hi=>?_⟩ (G0 R) (fun x Z y j=>by have:=J x Z;rw[A1o]at this;exact this y j) (Gb.refl _ _) h t.drew
 ·simp_all
 simp only[A2t]at hi;by_cases X:i<ops.size
 ·grind
 grind
def Aw2 (P:Program)(pre:zK)(p q:Nat)(post:zK)(st:List KI×S):Bool:=match st with
 |(.code (.region id ops true)::k,s)=>Alo ops s pre [p,q] post&&(Ru P id ops pre s).isSome
 |_=>false
def Akz (P:Program)(pre l:zK)(st:List KI×S):List KI×S:=match st with
 |(.code (.region id ops true)::k,s)=>match Ru P id ops pre s with
  |some s'=>(.reg id ops true l::k,s')
  |none=>st
 |_=>st
end
section rules
variable {P:Program} [A6 P] {fn:Func} {Post:Ce} {st:List KI×S} {u m:PH}
def G.both (pre:zK)(p q:Nat)(post:zK)(h:Aw2 P pre p q post (adv P st)=true)(t:G P fn Post (Akz P pre (p::q::post) (adv P st)) u m)(z:G P fn Post (Akz P pre (q::p::post) (adv P st)) u m):G P fn Post st u m:=by
 refine G.stp ⟨?_⟩;generalize adv P st=st' at h t z;unfold Aw2 at h;split at h
 ·rename_i id ops k s;rw[A1m]at h;obtain⟨C,E⟩:=h;obtain⟨F,j⟩:=A6a.1 E;have e:∀ l,Akz P pre l (.code (.region id ops true)::k,s)=(.reg id ops true l::k,F):=fun l=>by unfold Akz;simp only[j]
  rw[e]at t z;exact Sym.reg_tree A6.mx C (Ob.autos j (.two t.out fun _=>z.out))
 cases h
end rules
end
section
variable {a:Act}{i:Nat}{o:Oper}{s:S}{w w':World}
structure Aoh (F:Fence):Prop where
 fn:∀ f,F.fn f
 dep:F.depth.isSome=false
 calls:∀ {P:Program} {f:FuncId} {args:Array Value} {w:World} {R:Ending->World->Prop},Calls P f args w R->CallsIn F 0 P f args w R
def Tf:Aoh Fence.wide:=⟨fun _=>trivial,rfl,fun h=>callsIn_wide.2 h⟩
def Aju (l:Nat):Aoh (Fence.wide.inRound l):=⟨fun _=>trivial,rfl,fun h=>(callsIn_wide (n:=0)).2 h⟩
def Ak1:Op->Bool
 |.defer _=>true
 |_=>false
def M3 (ops:Array Oper):Bool:=ops.toList.all fun o=>!Ak1 o.op
def Mo {ops:Array Oper}(h:M3 ops=true)(j:ops[i]?=some o):∀ c,o.op≠.defer c:=fun c e=>by
 unfold M3 at h;rw[A1o]at h;have:=h o (Array.mem_toList_iff.2 (Array.mem_of_getElem? j));rw[e]at this;simp[Ak1]at this
section
variable {P:Program} {id:Nat} {ops:Array Oper} {dr:Bool} {Fin:S->PH->PH->Prop} {c:Cx} {Q:Exit->Act->World->Prop} {F:Fence}
def Aas {y:Value}{K:Act->World->Prop}(hF:Aoh F)(j:∀ c,o.op≠.defer c)(h:Ay2 P a o w y w')(e:K (a.put o.dst y) w'):o.wpIn F 0 P a w K Q:=by
 refine⟨fun f _=>hF.fn f,?_⟩;rw[Oper.semAt_plain F _ _ j];rcases h with h|⟨h,rfl⟩<;>rw[h]<;>exact e
theorem Aoy {a:Act}{o:Oper}{w:World}{s:S}{u m:PH}{ρ:Nat->Nat}{K:Value->World->Prop}{t:Act->World->Prop}(hF:Aoh F)(H:∀ c,o.op≠.defer c)(I:Rel c s u m ρ a w)(L:Kl s o.op=true)(J:Ix o.op=true)
 (h:Eg P (C2 s) o w K) (j:∀ v w',K v w'->t (a.put o.dst v) w'):o.wpIn F 0 P a w t Q:=by
 refine⟨fun f _=>hF.fn f,?_⟩;rw[Oper.semAt_plain F _ _ H,Hw I (Gv J) L];unfold Eg at h;split at h
 ·rename_i v w' e;rw[e];exact j _ _ h
 ·rename_i w' e;rw[e];exact j _ _ h
 ·rename_i f args w' e;rw[e];refine⟨fun z=>(by rw[hF.dep]at z;cases z),hF.calls (Calls.mono h fun T R E=>?_)⟩;obtain⟨v,rfl,C⟩:=E;exact j _ _ C
 grind
def Rel.after {u m z t:PH}{ρ:Nat->Nat}(j:Rel c s u m ρ a w)(g1:Bv z t w')(g2:B0 u m w z t w'){d:Option Nat}(L:∀ e,d=some e->e<s.n)(v:Value):Rel c (s.put d (.v v)) z t ρ (a.put d v) w':=by
 refine Rel.put (x:=.v v) ?_ (fun _=>rfl) mV L;refine⟨j.sz,j.tm,j.df.of fun r e _ R H=>⟨by rw[g2.old _ (Aw e) H];exact e,by rw[g2.us _ (Aw e)];exact R,g2.ms _ (Aw e) H⟩,fun k b K=>?_,j.inj,j.lv,g1,j.gr.trans g2⟩;obtain⟨C,I,J,E⟩:=j.box k b K;have h:ρ k<w.heap.size:=by obtain⟨cs,e,_⟩:=C;exact Aw e
 refine⟨?_,I,?_,?_⟩
 ·rw[g2.old _ h E];exact C
 ·rw[g2.us _ h];exact J
 exact g2.ms _ h E
def Ob.wpOpsIn (hF:Aoh F)(j:M3 ops=true){rest:zK}(e:∀ s u m ρ a w,Fin s u m->Rel c s u m ρ a w->Go.wpOpsIn F 0 P ops Q rest a w) :
 ∀ {l:zK} {s:S} {u m:PH} {ρ:Nat->Nat} {a:Act} {w:World},Ob P id ops dr Fin l s u m->Rel c s u m ρ a w->Go.wpOpsIn F 0 P ops Q (l++rest) a w
 |[],s,u,m,ρ,a,w,h,hr=>by
  cases h with
  |nil h=>exact e _ _ _ _ _ _ h hr
 |i::l,s,u,m,ρ,a,w,h,hr=>by
  rw[A4x,wpOpsIn_cons];cases h with
  |auto ho hg hd he hl =>
   simp only[wpOpIn,ho,Ey hr hg,if_true];obtain⟨I,w',y,z,C⟩:=Aav (P:=P) hr he (Lg hd);exact Aas hF (Mo j ho) z (Ob.wpOpsIn hF j e hl C)
  |skip ho hg hd hl =>
   simp only[wpOpIn,ho,Ey hr hg,if_false,A4z];exact⟨fun f _=>hF.fn f,Ob.wpOpsIn hF j e hl (hr.put (x:=.v undef) (fun _=>rfl) mV (Lg hd))⟩
  |ask ho hg hd hv hs hal hw hl =>
   simp only[wpOpIn,ho,Ey hr hg,if_true];refine Aas hF (Mo j ho) (.inl ?_) (Ob.wpOpsIn hF j e hl (hr.put (fun _=>rfl) mV (Lg hd)));rw[Hw hr (Gv hs) hv];exact hw w (fun _=>⟨hr.gd.pu,fun _=>hr.gd.pm⟩)
  |big ho hg hd hv hs hf hk hw hl =>
   simp only[wpOpIn,ho,Ey hr hg,if_true];refine Aoy hF (Mo j ho) hr hv hs (hw w hr.gd) fun v w' ⟨H,E,g1,g2,t⟩=>?_;exact Ob.wpOpsIn hF j e (hl v H E (g2.le hr.gd.pu) t) (hr.after g1 g2 (Lg hd) v)
end
def yv (s:S)(ops:Array Oper)(i:Nat):Option (Nat×zV):=match ops[i]? with
 |some o=>match Fb s o&&(Kl s o.op&&Ix o.op) with
  |true=>match gv s ops o with
   |some true=>match o.op with
    |.call c=>match c.callee with
     |.value f=>match C2 s f with
      |.func (.yield l) first cap=>some (l,first.toList++c.args.toList.map (C2 s))
      |_=>none
     |_=>none
    |_=>none
   |_=>none
  |false=>none
 |none=>none
def ysk (s:S)(ops:Array Oper)(i:Nat):Bool:=match ops[i]? with
 |some o=>match Fb s o with
  |true=>match gv s ops o with
   |some false=>true
   |_=>false
  |false=>false
 |none=>false
def Acq (P:Program)(l:Nat)(args:zV)(u m:PH)(K:Value->PH->PH->Prop):Prop :=
 ∀ w,Bv u m w->YieldAt Fence.wide 0 P l args.toArray w fun e w'=>∃ v u' m',e=.returned v/\Bv u' m' w'/\B0 u m w u' m' w'/\K v u' m'
theorem Ate {ops:Array Oper}{i l:Nat}{args:zV}(h:yv s ops i=some (l,args)):∃ o,ops[i]?=some o/\gv s ops o=some true/\Fb s o=true/\Kl s o.op=true/\Ix o.op=true /\
 ∀ (P:Program) (w:World),(execOp (C2 s) o).run P w=(Instr.yield l args.toArray).run P w:=by
 unfold yv at h;split at h
 ·rename_i o ho;split at h
  ·rename_i hc;simp only[A1m]at hc;split at h
   ·rename_i hg;split at h
    ·rename_i c hop;split at h
     ·rename_i f hcal;split at h
      ·rename_i l' first cap he
       obtain⟨rfl,rfl⟩:=h;refine⟨o,ho,hg,hc.1,hc.2.1,hc.2.2,fun P w=>?_⟩;obtain⟨t,C,j,pos,after,e⟩:=o;simp only at hop;subst hop;have z:(first.toList++c.args.toList.map (C2 s)).toArray=first++c.args.map (C2 s):=by grind
       rw[z];simp[execOp,resolve,hcal,he,Deferred.ofValue,invoke]
      cases h
     cases h
    cases h
   cases h
  cases h
 cases h
theorem Arg {ops:Array Oper}(h:ysk s ops i=true):∃ o,ops[i]?=some o/\gv s ops o=some false/\Fb s o=true:=by
 unfold ysk at h;split at h
 ·grind
 cases h
def yB (pre:zK)(i:Nat)(post:zK)(st:List KI×S):Bool:=match st.1 with
 |.code (.region _ ops false)::_=>Nat.beq ops.size (pre.length+1+post.length)&&(List.range ops.size).zipIdx.all (fun x=>(pre++i::post)[x.2]? == some x.1)&&M3 ops
 |_=>false
def Azg (st:List KI×S):Array Oper:=match st.1 with
 |.code (.region _ ops false)::_=>ops
 |_=>#[]
def yS (pre:zK)(J:S->PH->PH->Prop)(st:List KI×S):List KI×S:=match st.1 with
 |.code (.region id ops false)::k=>(.reg id ops false pre::.lp J::k,st.2)
 |_=>st
def Alw (i:Nat)(post:zK)(st:List KI×S)(s:S)(v:Value):List KI×S:=match st.1 with
 |.code (.region id ops false)::k=>match ops[i]? with
  |some o=>(.reg id ops false post::k,s.put o.dst (.v v))
  |none=>st
 |_=>st
section rules
variable {P:Program} [A6 P] {fn:Func} {Post:Ce} {st:List KI×S} {u m:PH}
def G.yreg (pre:zK)(i:Nat)(t:zK)(h:yB pre i t (Ff P 200 st)=true)
 (kk:∀ J:S->PH->PH->Prop,
  (∀ C L R,ysk C (Azg (Ff P 200 st)) i=true->G P fn Post (Alw i t (Ff P 200 st) C undef) L R->J C L R) ->
  (∀ C L R l args (K:Value->PH->PH->Prop),yv C (Azg (Ff P 200 st)) i=some (l,args)->Acq P l args L R K->(∀ v z H,PH.le L z->K v z H->G P fn Post (Alw i t (Ff P 200 st) C v) z H)->J C L R) ->
  G P fn Post (yS pre J (Ff P 200 st)) u m):G P fn Post st u m:=by
 refine⟨Mq 200 st ?_⟩;generalize Ff P 200 st=st' at h kk;obtain⟨ks,s⟩:=st';unfold yB at h;simp only at h;split at h
 ·rename_i id ops k;simp only[A1m]at h;obtain⟨⟨h1,Y⟩,T⟩:=h;have hl:List.range ops.size=pre++i::t:=by
   refine A4g fun j=>?_;rw[A1o]at Y;by_cases hj:j<ops.size
   ·have:=Y (j,j) (by
     refine A1k (i:=j) ?_;rw[A92];simp[hj])
    simp only[beq_iff_eq]at this;rw[this];simp[hj]
   have U:=A1y h1;rw[A1v gV,A1v gV]
  intro c ρ a w X hr;refine (wpIn_wide (n:=0)).1 (wpIn_region ?_);rw[hl];have a0:=(kk (fun C L R=>(∃ o,ops[i]?=some o/\gv C ops o=some false/\Fb C o=true/\Ob P id ops false (Hm P fn Post k) t (C.put o.dst (.v undef)) L R) \/
   ∃ (o:Oper) (l:Nat) (args:zV) (K:Value->PH->PH->Prop),ops[i]?=some o/\gv C ops o=some true/\Fb C o=true/\Kl C o.op=true/\Ix o.op=true/\(∀ (P:Program) (w:World),(execOp (C2 C) o).run P w=(Instr.yield l args.toArray).run P w)/\Acq P l args L R K /\
    ∀ v z H,PH.le L z->K v z H->Ob P id ops false (Hm P fn Post k) t (C.put o.dst (.v v)) z H)
   (fun C L R hs hg=>by
    obtain⟨o,I,U,V⟩:=Arg hs;have I:ops[i]?=some o:=I;have:=hg.out;simp only[Alw]at this;rw[I]at this;exact .inl ⟨o,I,U,V,this⟩)
   (fun C L R l args K hy hc hg=>by
    obtain⟨o,I,U,V,W,Z,e5⟩:=Ate hy;have I:ops[i]?=some o:=I;refine .inr ⟨o,l,args,K,I,U,V,W,Z,e5,hc,fun v z H h1 Y=>?_⟩;have:=(hg v z H h1 Y).out;simp only[Alw]at this;rw[I]at this;exact this)).out
  refine Ob.wpOpsIn Tf T (fun s1 u1 m1 ρ1 a1 w1 hf a2=>?_) a0 hr;obtain⟨s2,u2,m2,ρ2,E,hJ⟩:=hf c ρ1 a1 w1 X a2;rw[wpOpsIn_cons];have fin:∀ (s u m ρ a w),Hm P fn Post k s u m->Rel c s u m ρ a w->Go.wpOpsIn Fence.wide 0 P ops (It P fn Post c k) [] a w:=fun s u m ρ a w hf hr=>hf c ρ a w X hr;rcases hJ with ⟨o,I,U,V,W⟩|⟨o,l,args,K,I,U,V,W,Z,e5,e6,e7⟩
  ·simp only[wpOpIn,I,Ey E U,if_false,A4z];refine⟨fun f _=>trivial,?_⟩;have:=Ob.wpOpsIn Tf T fin W (E.put (x:=.v undef) (fun _=>rfl) mV (Lg V));rwa[A1x]at this
  simp only[wpOpIn,I,Ey E U,if_true];refine⟨fun f _=>trivial,?_⟩;rw[Oper.semAt_plain _ _ _ (Mo T I),Hw E (Gv Z) W,e5];obtain⟨a3,tmps,assign,body,hy,hR⟩:=e6 w1 E.gd;rw[hy];refine⟨fun hh=>(by cases hh),hR.mono fun e w' he=>?_⟩;obtain⟨v,L,R,rfl,g1,g2,g3⟩:=he;have:=Ob.wpOpsIn Tf T fin (e7 v L R (g2.le E.gd.pu) g3) (E.after g1 g2 (Lg V) v);rwa[A1x]at this
 cases h
def Az8 {F:Fence}(hF:Aoh F){id:Nat}{ops:Array Oper}(j:M3 ops=true){J:S->PH->PH->Prop}{s:S}{c:Cx}{ρ:Nat->Nat}{a:Act}{w:World}{Q:Exit->Act->World->Prop}
 (h:G P fn Post ([.reg id ops false (List.range ops.size),.lp J],s) u m) (I:Rel c s u m ρ a w) (e:c.m0=Post.m0) (E:∀ s u m ρ a w,Rel c s u m ρ a w->J s u m->Q .normal a w):(Code.region id ops false).wpIn F 0 P Q a w:=by
 refine wpIn_region ?_;have:=Ob.wpOpsIn (rest:=[]) hF j (Q:=Q) (fun U W R L a1 K H t=>by
  obtain⟨V,X,T,Y,z,C⟩:=H c L a1 K e t;exact E _ _ _ _ _ _ z C) h.out I
 rwa[A1x]at this
end rules
def S.ofT (n:Nat)(T:List (Nat×Value)):S:={ n:=n,tm:=fun d=>match T.find? (fun x=>Nat.beq x.1 d) with|some x=>.v x.2|none=>.junk,hp:=fun _=>none }
theorem Rel.start {u m:PH}(h:Bv u m w){tmps:Array Value}{T:List (Nat×Value)}(hT:∀ x∈T,tmps[x.1]?=some x.2):Rel ⟨w,u,m⟩ (S.ofT tmps.size T) u m (fun _=>0) { tmps:=tmps,defers:=[] } w:=by
 refine⟨rfl,fun d t=>?_,Agv.nil _ _ _ _,fun k b z=>(by cases z),fun k j C=>absurd rfl C,⟨fun d k off t=>?_,fun j b k off z=>(by cases z)⟩,h,⟨A08 _,fun _ _ _=>rfl,fun _ _=>rfl,fun _ _ h=>h,⟨rfl,rfl⟩,fun _=>⟨rfl,A08 _⟩⟩⟩
 ·unfold S.ofT at t⊢;simp only at t⊢;split
  ·rename_i x hx;have:=hT x (List.mem_of_find?_eq_some hx);have e:=List.find?_some hx;rw[<-A1y e];exact this
  grind
 unfold S.ofT at t;simp only at t;split at t<;>cases t
def Bv.putO {u m:PH}(h:Bv u m w){g:Nat}{o o':Obj}(e:m g=some o)(j:Q9 o'=true):Bv u (m.upd g o') (w.putObj g o')/\B0 u m w u (m.upd g o') (w.putObj g o'):=by
 have:=h.setO e j;rwa[show Ta w g o'=w.putObj g o' from rfl]at this
end
def ElP.sub {u:PH}{b off:Nat}{e x:Value}{k:Nat}(h:ElP u b off e)(z:∀ i y,x.cells[i]?=some y->e.cells[k+i]?=some y):ElP u b (off+k) x:=fun i y C=>by
 obtain⟨cs,t,fr,j,m⟩:=h (k+i) y (z i y C);exact⟨cs,t,fr,j,by rw[A3p];exact m⟩
def Acq.mono {P:Program}{l:Nat}{args:zV}{u m:PH}{K z:Value->PH->PH->Prop}(h:Acq P l args u m K)(Q:∀ v t j,K v t j->z v t j):Acq P l args u m z:=fun w L=>by
 obtain⟨fn,tmps,assign,body,I,J⟩:=h w L;exact⟨fn,tmps,assign,body,I,RoundIn.mono J fun e w' ⟨v,t,j,C,E,F,H⟩=>⟨v,t,j,C,E,F,Q _ _ _ H⟩⟩
def Bcw {u m:PH}{l b1 b2:Nat}{v tv:Value}{T:zC}{R:List Br}{F:List Al}{lab:Int}{ss:zW}(h:Mv u v tv T R F lab ss)(a9:ElP u b1 0 v)(a2:ElP u b2 0 tv)(J:List (Par×Rat)->PH->PH->Prop)(D:PH->PH->Prop)
 (aa:∀ L E Z I,PH.le E Z->J L E I->J L Z I)
 (hY:∀ (i:Nat) (x:Par×Rat) E I,i<F.length->PH.le u E->J (Dx F ss i) E I->x∈Dx F ss F.length->x.1.1=(i:Int)->Acq prog l [Ap x.1,zS (Ae x.2)] E I fun r Z a7=>r=zT/\J (Dx F ss i++[x]) Z a7\/r=zL/\D Z a7)
 (h0:J [] u m):Ag prog 251 [.func (.yield l) #[] #[],.pointer (zA b1),.pointer (zA b2)] u m fun _ E I=>J (Dx F ss F.length) E I\/D E I:=by
 obtain⟨⟨xa,xc,xb,xd,xe,xf,rfl,ac,ab,a8⟩,ok,hS,hT⟩:=h;obtain⟨ya,yc,rfl⟩:=hS.opn;rw[A03]at hS a2;have ad:=ok.f2;have P:=ok.feat;have e2:ElP u b1 (0+2) (.slice xe F.length xf):=a9.sub (k:=2) fun i y W=>by
  match i,W with
  |0,W=>simpa[Value.cells] using W
  |i+1,W=>simp[Value.cells]at W
 refine Ag.o func251<|G.f 30 b1 0 2 2<|G.g none e2<|G.l (ι:=Nat) (fun i=>[(0,.v (.func (.yield l) #[] #[])),(2,.v (.pointer (zA b2))),(9,sV xe F.length xf),(10,iV F.length),(11,iV i)]) (fun _=>[])
  (fun i E I=>i<=F.length/\J (Dx F ss i) E I) (fun i=>F.length-i) 0 ⟨oV,h0⟩ ?_
 rintro Jl i hJ u1 m1 l1 ⟨hi,z⟩;by_cases U:i<F.length
 ·refine G.lT i F.length ?_;have a0:F[i]?=some F[i]:=A01 U;have a3:=A09 U;have Q:=Vz P hT a3;have C:=Aab (ss:=ss) a0;have H:=fun h2 h0=>S3 P hT a3 h2 h0;have a6:∀ x,Jf ss i F[i]=some x->x∈Dx F ss F.length:=fun x hx=>F9.2 ⟨i,F[i],U,a0,hx⟩;obtain⟨fb,fo,rfl,ef⟩:=Ac.at' (a8.mono l1) (j:=i) (e:=Cm F[i]) (by simp[a0]);have step:=fun (x:Par×Rat) (hx:Jf ss i F[i]=some x) (E I:PH) (hl:PH.le u1 E) (hj:J (Dx F ss i) E I)=>hY i x E I U (l1.trans hl) hj (a6 x hx) (Ow hx);have Y:Jf ss i F[i]=none->Dx F ss (i+1)=Dx F ss i:=fun e=>by rw[C,e];simp
  have K:∀ x,Jf ss i F[i]=some x->Dx F ss (i+1)=Dx F ss i++[x]:=fun x e=>by rw[C,e];simp
  clear C a6;generalize F[i]=f at a0 a3 Q H ef step Y K;obtain⟨f1,f2,f3⟩:=f;simp only at Q H;refine G.N F.length xf U ef<|G.g none (a2.mono l1) ?_;obtain⟨b,off,rfl,e⟩:=M5 (hS.mono l1) Q;refine G.N ss.length yc Q e ?_;by_cases a4:f2=2
  ·subst a4;have hv:Jf ss i (f1,2,f3)=some (((i:Int),ss.getD f1 []),1):=by unfold Jf;rw[if_pos rfl]
   refine G.eT (2:Nat) 2<|G.g none (a2.mono l1)<|G.N ss.length yc Q e<|G.yreg [0,1,2,3,4,5,6,7,8,9] 10 [11,12] kV ?_;intro Jy V X;refine G.x [49] [] mV<|G.x [49] [48] mV ?_;have W:=step _ hv u1 m1 (PH.le_refl _) z;rw[Sv]at W;refine G.b (X _ _ _ l _ _ kV W ?_);rintro v2 u2 m2 l2 (⟨rfl,hJ2⟩|⟨rfl,hD2⟩)
   case inr=>exact G.r (.tuple #[]) (.inr hD2)
   rw[<-K _ hv]at hJ2;exact G.i i<|G.b (hJ (i+1) _ _ _ cV (l1.trans l2) ⟨oV,hJ2⟩ oV)
  refine G.eF f2 2 ?_;have t:Jf ss i (f1,f2,f3)=if ss.getD f1 [] = []\/ss.getD f1 [] = [48] then none else some (((i:Int),[]),Lk (ss.getD f1 [])):=by unfold Jf;rw[if_neg a4]
  have H:=H a4;generalize ss.getD f1 []=w at t H e;by_cases a1:w = []
  ·subst a1;rw[if_pos (.inl rfl)]at t;refine G.yreg [0,1,2,3,4,5,6,7,8,9] 10 [11,12] kV ?_;intro Jy V X;refine G.y [] [] rfl<|G.b (V _ _ _ kV ?_);rw[<-Y t]at z;exact G.i i<|G.b (hJ (i+1) _ _ _ cV l1 ⟨oV,z⟩ oV)
  by_cases a5:w = [48]
  ·subst a5;rw[if_pos (.inr rfl)]at t;refine G.yreg [0,1,2,3,4,5,6,7,8,9] 10 [11,12] kV ?_;intro Jy V X;refine G.x [48] [] mV<|G.y [48] [48] rfl<|G.b (V _ _ _ kV ?_);rw[<-Y t]at z;exact G.i i<|G.b (hJ (i+1) _ _ _ cV l1 ⟨oV,z⟩ oV)
  rw[if_neg (fun e=>e.elim a1 a5)]at t;refine G.yreg [0,1,2,3,4,5,6,7,8,9] 10 [11,12] kV ?_;intro Jy V X;refine G.x w [] a1<|G.x w [48] a5 ?_;have W:=step _ t u1 m1 (PH.le_refl _) z;rw[(H a1).2]at W;refine G.b (X _ _ _ l _ _ kV W ?_);rintro v2 u2 m2 l2 (⟨rfl,hJ2⟩|⟨rfl,hD2⟩)
  case inr=>exact G.r (.tuple #[]) (.inr hD2)
  rw[<-K _ t]at hJ2;exact G.i i<|G.b (hJ (i+1) _ _ _ cV (l1.trans l2) ⟨oV,hJ2⟩ oV)
 obtain rfl:i=F.length:=oV;exact G.lF F.length F.length<|G.r (.tuple #[]) (.inl z)
def Arp {u m:PH}{l K P:Nat}{v Q:Value}{T:zC}{R:List Br}{F:List Al}{lab:Int}{ss:zW}(h:Mv u v Q T R F lab ss)(E:ElP u K 0 v)(H:ElP u P 0 Q)(J:List (Par×Rat)->PH->PH->Prop)
 (C:∀ L j z t,PH.le j z->J L j t->J L z t)
 (hY:∀ (i:Nat) (x:Par×Rat) j t,i<F.length->PH.le u j->J (Dx F ss i) j t->x∈Dx F ss F.length->x.1.1=(i:Int)->Acq prog l [Ap x.1,zS (Ae x.2)] j t fun r z I=>r=zT/\J (Dx F ss i++[x]) z I)
 (h0:J [] u m):Ag prog 251 [.func (.yield l) #[] #[],.pointer (zA K),.pointer (zA P)] u m fun _ j t=>J (Dx F ss F.length) j t:=fun w hg =>
 Calls.mono (Bcw h E H J (fun _ _=>False) C (fun i x j t Y Z h3 h4 h5=>(hY i x j t Y Z h3 h4 h5).mono fun _ _ _ h=>.inl h) h0 w hg) fun e w' ⟨v,j,t,U,V,W,X⟩=>⟨v,j,t,U,V,W,X.resolve_right id⟩
section
variable {c x y:Code}{id:Nat}
def Lb:Code->Option (Operand×Array Tmp×Code×Code)
 |.seq a b=>match Lb a with|some x=>some x|none=>Lb b
 |.block _ a=>Lb a
 |.loop a=>Lb a
 |.cond _ a b=>match Lb a with|some x=>some x|none=>Lb b
 |.rangeFunc g ps x y=>some (g,ps,x,y)
 |_=>none
def rfG (fn:Func):Operand:=match Lb (Qd fn) with|some x=>x.1|none=>.tmp 0
def A0v (fn:Func):Array Tmp:=match Lb (Qd fn) with|some x=>x.2.1|none=>#[]
def rfX (fn:Func):Code:=match Lb (Qd fn) with|some x=>x.2.2.1|none=>.skip
def rfY (fn:Func):Code:=match Lb (Qd fn) with|some x=>x.2.2.2|none=>.skip
def Az5:Code->Bool
 |.seq _ _=>true
 |_=>false
def A0q:Code->Code
 |.seq a _=>a
 |_=>.skip
def A0w:Code->Code
 |.seq _ b=>b
 |_=>.skip
def A0r:Code->Bool
 |.block _ _=>true
 |_=>false
def A0f:Code->Code
 |.block _ a=>a
 |_=>.skip
def rgB:Code->Bool
 |.region _ ops false=>M3 ops
 |_=>false
def rgI:Code->Nat
 |.region id _ _=>id
 |_=>0
def rgO:Code->Array Oper
 |.region _ ops _=>ops
 |_=>#[]
def cnB:Code->Bool
 |.cond _ _ _=>true
 |_=>false
def cnX:Code->Operand
 |.cond x _ _=>x
 |_=>.tmp 0
def cnZ:Code->Code
 |.cond _ _ z=>z
 |_=>.skip
def skB:Code->Bool
 |.skip=>true
 |_=>false
def RW (P:Program)(l:Nat)(c:Code)(J:S->PH->PH->Prop)(s:S)(u m:PH):Prop :=
 ∀ (cx:Cx) (ρ:Nat->Nat) (a:Act) (w:World),Rel cx s u m ρ a w->c.wpIn (Fence.wide.inRound l) 0 P (Exit.then (fun a w=>∃ s u m ρ,Rel cx s u m ρ a w/\J s u m) (fun _ _ _=>False)) a w
section
variable {P:Program} {l:Nat} {J J':S->PH->PH->Prop} {s:S} {u m:PH}
def RW.skip (h:J s u m):RW P l .skip J s u m:=fun j ρ a w e=>wpIn_skip ⟨s,u,m,ρ,e,h⟩
def RW.seq (h:RW P l x (fun s u m=>RW P l y J s u m) s u m):RW P l (.seq x y) J s u m:=fun j ρ a w E=>wpIn_seq (wpIn_mono (h j ρ a w E) fun e a w t=>by
 cases e with
 |normal=>obtain⟨s,u,m,ρ,z,C⟩:=t;exact C j ρ a w z
 |_=>exact t)
def RW.block (h:RW P l x J s u m):RW P l (.block id x) J s u m:=fun t ρ a w z=>wpIn_block (wpIn_mono (h t ρ a w z) fun e a w j=>by
 cases e with
 |normal=>exact j
 |_=>exact j.elim)
def RW.condF {x:Operand}{y z:Code}(j:s.ev x=.v zL)(h:RW P l z J s u m):RW P l (.cond x y z) J s u m:=fun t ρ a w e =>
 wpIn_cond_false (by rw[e.eval x (by rw[j];simp),j];rfl) (h t ρ a w e)
def RW.reg [A6 P]{e:Array Oper}(fn:Func)(j:M3 e=true)(h:∀ (Post:Ce) (J':S->PH->PH->Prop),(∀ s u m,J s u m->J' s u m)->G P fn Post ([.reg id e false (List.range e.size),.lp J'],s) u m):RW P l (.region id e false) J s u m:=fun t ρ a w E =>
 Az8 (Aju l) j (h ⟨fun _ _ _=>False,t.m0⟩ J fun _ _ _ h=>h) E rfl fun s u m ρ a w z C=>⟨s,u,m,ρ,z,C⟩
end
def Ag.weak {P:Program}{f:FuncId}{args:zV}{u m:PH}{R z:Value->PH->PH->Prop}(h:Ag P f args u m R)(K:∀ v t j,R v t j->z v t j):Ag P f args u m z:=fun w I=>Calls.mono (h w I) fun e w' ⟨v,t,j,C,E,F,H⟩=>⟨v,t,j,C,E,F,K _ _ _ H⟩
def RW.seq' {P:Program}{l:Nat}{J:S->PH->PH->Prop}{s:S}{u m:PH}(e:Az5 c=true)(h:RW P l (A0q c) (fun s u m=>RW P l (A0w c) J s u m) s u m):RW P l c J s u m:=by
 cases c<;>first|exact RW.seq h|cases e
def RW.block' {P:Program}{l:Nat}{J:S->PH->PH->Prop}{s:S}{u m:PH}(e:A0r c=true)(h:RW P l (A0f c) J s u m):RW P l c J s u m:=by
 cases c<;>first|exact RW.block h|cases e
def RW.skip' {P:Program}{l:Nat}{J:S->PH->PH->Prop}{s:S}{u m:PH}(e:skB c=true)(h:J s u m):RW P l c J s u m:=by
 cases c<;>first|exact RW.skip h|cases e
def RW.condF' {P:Program}{l:Nat}{J:S->PH->PH->Prop}{s:S}{u m:PH}(e:cnB c=true)(j:s.ev (cnX c)=.v zL)(h:RW P l (cnZ c) J s u m):RW P l c J s u m:=by
 cases c<;>first|exact RW.condF j h|cases e
def RW.reg' {P:Program}[A6 P]{l:Nat}{J:S->PH->PH->Prop}{s:S}{u m:PH}(fn:Func)(e:rgB c=true)(h:∀ (Post:Ce) (J':S->PH->PH->Prop),(∀ s u m,J s u m->J' s u m)->G P fn Post ([.reg (rgI c) (rgO c) false (List.range (rgO c).size),.lp J'],s) u m):RW P l c J s u m:=by
 cases c with
 |region id ops dr =>
  cases dr with
  |false=>exact RW.reg fn e h
  |true=>cases e
 |_=>cases e
def Vg (r:Loop):Loop:={ r with state:=.busy }
def Aje (p q:Nat)(a b:Value)(t:Array Value):((#[p,q].zip [a,b].toArray).foldl (fun tmps (t,a)=>tmps.setIfInBounds t a) t)=(t.setIfInBounds p a).setIfInBounds q b:=mV
theorem Amn {P:Program}{l n:Nat}{r:Loop}{args:zV}{T:List (Nat×Value)}{u m:PH}{K:PH->PH->Prop}(hm:m l=some (.loop r))(hr:r.state=.ready)(hp:r.pending=none)(hs:args.length=r.params.size)
 (hn:r.tmps.size=n) (hT:∀ x∈T,((r.params.zip args.toArray).foldl (fun tmps (t,a)=>tmps.setIfInBounds t a) r.tmps)[x.1]?=some x.2)
 (h:RW P l r.assign (fun s u1 V=>V l=some (.loop r)/\RW P l r.body (fun _ u2 m2=>m2 l=some (.loop (Vg r))/\K u2 (m2.upd l (.loop r))) s u1 (V.upd l (.loop (Vg r)))) (S.ofT n T) u m) :
 Acq P l args u m fun v u' m'=>v=zT/\K u' m':=by
 intro w F;have hl:=F.pm l _ hm;have Z:((r.params.zip args.toArray).foldl (fun tmps (t,a)=>tmps.setIfInBounds t a) r.tmps).size=n:=by
  rw[<-hn,<-A99];generalize (r.params.zip args.toArray).toList=L;generalize r.tmps=t0;induction L generalizing t0 with
  |nil=>rfl
  |cons x L ih=>grind
 refine⟨r.fn,_,r.assign,r.body,run_yield hl (by simpa using hs),roundIn_of_wpIn trivial ?_⟩;have z:=Rel.start (T:=T) F (tmps:=(r.params.zip args.toArray).foldl (fun tmps (t,a)=>tmps.setIfInBounds t a) r.tmps) hT;rw[Z]at z;refine wpIn_mono (h _ _ _ _ z) fun e a1 w1 hq=>?_;cases e with
 |normal =>
  obtain⟨s1,u1,V,ρ1,j,U,h2⟩:=hq;have X:=j.gd.pm l _ U;have H:∀ k b,s1.hp k=some b->ρ1 k≠l:=fun k b E e=>by
   obtain⟨_,_,_,R⟩:=j.box k b E;rw[e,U]at R;cases R
  obtain⟨g1,g2⟩:=j.gd.putO (o':=.loop (Vg r)) U rfl;have r2:Rel ⟨w,u,m⟩ s1 u1 (V.upd l (.loop (Vg r))) ρ1 a1 (w1.putObj l (.loop (Vg r))):=by
   refine⟨j.sz,j.tm,j.df.of fun q e _ hu C=>?_,fun k b E=>?_,j.inj,j.lv,g1,j.gr.trans g2⟩
   ·have Q:q≠l:=fun e'=>by rw[e',U]at C;cases C
    exact⟨by rw[World.putObj_heap_other Q];exact e,hu,by rw[Ad _ _ Q];exact C⟩
   obtain⟨e1,W,e3,R⟩:=j.box k b E;exact⟨by rw[World.putObj_heap_other (H k b E)];exact e1,W,e3,by rw[Ad _ _ (H k b E)];exact R⟩
  refine⟨_,run_beginRound X hr,wpIn_mono (h2 _ _ _ _ r2) fun W a2 w2 I=>?_⟩;cases W with
  |normal =>
   obtain⟨s2,u2,m2,ρ2,r3,h3,h4⟩:=I;have Y:=r3.gd.pm l _ h3;refine⟨_,_,run_endRound none Y,?_⟩;have e5:({ Vg r with state:=if (none:Option Code).isNone then .ready else .done,pending:=none }:Loop)=r:=by
    cases r;subst hr;subst hp;rfl
   rw[e5];obtain⟨g3,g4⟩:=r3.gd.putO (o':=.loop r) h3 rfl;exact⟨_,_,_,rfl,g3,r3.gr.trans g4,rfl,h4⟩
  |_=>exact I.elim
 |_=>exact hq.elim
section
variable {P:Program} [A6 P] {fn:Func} {Post:Ce} {st:List KI×S} {u m:PH}
def Azy (st:List KI×S):Option (Operand×Array Tmp×Code×Code):=match st.1 with
 |.code (.rangeFunc g ps x y)::_=>some (g,ps,x,y)
 |_=>none
def Ais (st:List KI×S):List KI×S:=match st.1 with
 |.code (.rangeFunc _ _ _ _)::k=>(k,st.2)
 |_=>st
theorem G.rangeF (g:Operand)(ps:Array Tmp)(x y:Code)(Q:Nat)(cap:zV)(a0:PH->PH->Prop)(h:Azy (adv P st)=some (g,ps,x,y))(I:(adv P st).2.ev g=.v (.func (.func Q) #[] cap.toArray))(hn:F2 (Ais (adv P st)).1=true)
 (hc:∀ args w,(callFunc Q args).run P w=.ok (.enter Q args) w)
 (R:∀ (l:Nat) (r:Loop),r.state=.ready->r.pending=none->r.params=ps->r.assign=x->r.body=y->r.tmps.size=(adv P st).2.n->(∀ d v,(adv P st).2.tm d=.v v->r.tmps[d]?=some v)->m l=none->u l=none ->
  Ag P Q (.func (.yield l) #[] #[]::cap) u (m.upd l (.loop r)) fun _ u' Z=>∃ r':Loop,r'.state≠.busy/\r'.pending=none/\Z l=some (.loop r')/\∃ V,PH.le V Z/\V l=none/\a0 u' V)
 (k:∀ u' Z,PH.le u u'->a0 u' Z->G P fn Post (Ais (adv P st)) u' Z):G P fn Post st u m:=by
 refine G.stp ?_;generalize adv P st=st' at h I hn R k;obtain⟨ks,s⟩:=st'
 match ks,h with
 |.code (.rangeFunc g' ps' x' y')::kk,h =>
  simp only[Azy,A1f,A2i]at h;obtain⟨rfl,rfl,rfl,rfl⟩:=h;simp only[Ais]at hn R k;refine⟨?_⟩;intro c ρ a w ad L;show (Code.rangeFunc g' ps' x' y').wp P (It P fn Post c kk) a w;refine (wpIn_wide (n:=0)).1 (wpIn_rangeFunc fun fid _=>?_);obtain⟨C,F⟩:∃ C:Loop,C={ state:=.ready,pending:=none,fn:=fid,tmps:=a.tmps,params:=ps',assign:=x',body:=y',defers:=w.heap.size }:=⟨_,rfl⟩;have W:=run_enterLoop_outer (P:=P) (w:=w) fid a.tmps ps' x' y';rw[<-F]at W;obtain⟨E,H⟩:∃ E,E=w.alloc (.deferred (some [])):=⟨_,rfl⟩;rw[<-H]at W;have a8:E.heap.size=w.heap.size+1:=by rw[H,B6]
  rw[<-a8]at W;have a1:E.heap[w.heap.size]?=some (.deferred (some [])):=by rw[H];exact Cn _ _
  have ag:u w.heap.size=none:=L.gd.pu.none (A08 _);have ae:m w.heap.size=none:=L.gd.pm.none (A08 _);have Y:Bv u m E:=by
   refine⟨fun g o I=>?_,fun g o I=>?_,L.gd.ap,fun g cs t fr j z I hj=>?_⟩
   ·rw[H,Aq _ _ (L.gd.pu.lt I)];exact L.gd.pu g o I
   ·rw[H,Aq _ _ (L.gd.pm.lt I)];exact L.gd.pm g o I
   by_cases e:g=w.heap.size
   ·subst e;rw[a1]at I;simp at I
   have K:=Aw I;rw[a8]at K;rw[H,Aq _ _ oV]at I;exact L.gd.cl g cs t fr j z I hj
  have a3:B0 c.u0 c.m0 c.w0 u m E:=L.gr.trans ⟨oV,fun g I _=>by rw[H];exact Aq _ _ I,fun _ _=>rfl,fun _ _ h=>h,by rw[H];exact⟨rfl,rfl⟩,fun _=>by rw[H];exact⟨rfl,A08 _⟩⟩;have T:Rel c s u m ρ { a with defers:=Xm w.heap.size::a.defers } E:=by
   refine⟨L.sz,L.tm,?_,fun k b hb=>?_,L.inj,L.lv,Y,a3⟩
   ·obtain⟨ds,d1,d2,a9,d3⟩:=L.df;refine⟨w.heap.size::ds,A4j.2 ⟨fun a6=>?_,d1⟩,by rw[A2u,<-d2];rfl,by rw[<-a9];rfl,fun q hq=>?_⟩
    ·obtain⟨e,_⟩:=d3 _ a6;exact absurd (Aw e) oV
    rcases A1g.1 hq with rfl|hq
    ·exact⟨a1,L.gr.sz,ag,ae⟩
    obtain⟨e1,e2,e3,e4⟩:=d3 q hq;exact⟨by rw[H,Aq _ _ (Aw e1)];exact e1,e2,e3,e4⟩
   obtain⟨⟨cs,f1,f2,f3⟩,f4⟩:=L.box k b hb;exact⟨⟨cs,by rw[H,Aq _ _ (Aw f1)];exact f1,f2,f3⟩,f4⟩
  obtain⟨g1,g2,g3,g4⟩:=Y.newO (o:=.loop C) rfl;have U:Rel c s u (m.upd E.heap.size (.loop C)) ρ { a with defers:=Xm w.heap.size::a.defers } (E.alloc (.loop C)):=by
   refine⟨T.sz,T.tm,T.df.of fun q e _ hu X=>?_,fun k b hb=>?_,T.inj,T.lv,g1,T.gr.trans g2⟩
   ·have K:=Aw e;exact⟨by rw[Aq _ _ K];exact e,hu,by rw[Ad _ _ oV];exact X⟩
   obtain⟨⟨cs,f1,f2,f3⟩,f4,f5,f6⟩:=T.box k b hb;have K:=Aw f1;exact⟨⟨cs,by rw[Aq _ _ K];exact f1,f2,f3⟩,f4,f5,by rw[Ad _ _ oV];exact f6⟩
  have ab:a.eval g'=.func (.func Q) #[] cap.toArray:=by rw[L.eval g' (by rw[I];simp),I];rfl
  have aa:=R E.heap.size C (by rw[F]) (by rw[F]) (by rw[F]) (by rw[F]) (by rw[F]) (by rw[F];exact L.sz) (fun d v hd=>by
   have:=L.tm d (by rw[hd];simp);rw[hd]at this;rw[F];exact this) g3 g4
  obtain⟨dd,a2⟩:∃ dd:Deferred,dd={ target:=.fn (.func Q) cap.toArray,args:=#[.func (.yield E.heap.size) #[] #[]] }:=⟨_,rfl⟩;have a7:(resolve a.eval (rangeCall g' E.heap.size) 0).run P (E.alloc (.loop C))=.ok dd (E.alloc (.loop C)):=by
   rw[a2];simp only[resolve,ab,Deferred.ofValue];simp[Act.eval]
  have a4:(invoke dd.target dd.args).run P (E.alloc (.loop C))=.ok (.enter Q (.func (.yield E.heap.size) #[] #[]::cap).toArray) (E.alloc (.loop C)):=by
   rw[a2];simp[invoke,hc]
  refine⟨E.heap.size,[Xm w.heap.size],E.alloc (.loop C),dd,E.alloc (.loop C),Q,(.func (.yield E.heap.size) #[] #[]::cap).toArray,E.alloc (.loop C),W,a7,fun _ _=>trivial,a4,(fun h=>by cases h),?_⟩;refine callsIn_wide.2 (Calls.mono (aa _ g1) fun e w3 he=>?_);obtain⟨v,u',Z,rfl,k1,k2,r',q1,q2,q3,V,q4,q5,q6⟩:=he;have ac:=k1.pm _ _ q3;refine⟨none,_,by rw[<-q2];exact run_endLoop ac q1,?_⟩;obtain⟨p1,p2⟩:=k1.putO (o':=.loop { r' with state:=.exhausted }) q3 rfl;have a5:PH.le V (Z.upd E.heap.size (.loop { r' with state:=.exhausted })):=fun g o I=>by
   by_cases e:g=E.heap.size
   ·grind
   rw[Ad _ _ e];exact q4 g o I
  have af:Rel c s u' (Z.upd E.heap.size (.loop { r' with state:=.exhausted })) ρ { a with defers:=Xm w.heap.size::a.defers } (w3.putObj E.heap.size (.loop { r' with state:=.exhausted })):=by
   have g5:=k2.trans p2;refine⟨U.sz,U.tm,U.df.of fun q e _ hu X=>⟨by rw[g5.old _ (Aw e) X];exact e,by rw[g5.us _ (Aw e)];exact hu,g5.ms _ (Aw e) X⟩,fun k b hb=>?_,U.inj,U.lv,p1,U.gr.trans g5⟩;obtain⟨e1,e2,e3,e4⟩:=U.box k b hb;have K:ρ k<(E.alloc (.loop C)).heap.size:=by obtain⟨cs,e,_⟩:=e1;exact Aw e
   refine⟨?_,e2,?_,?_⟩
   ·rw[g5.old _ K e4];exact e1
   ·rw[g5.us _ K];exact e3
   exact g5.ms _ K e4
  have hk:=(k u' V (k2.le g1.pu) q6).out;rw[Sym.ofNo hn]at hk;exact hk c ρ _ _ ad (af.less a5)
end
end
section
variable {b sz:Nat}{es:zV}{m m0:PH}{o:Obj}{t:TypeId}{v:Value}
def Af.base (h:Af m0 m v t sz es)(I:m0 b≠none):Af (m0.upd b o) (m.upd b o) v t sz es:=by
 obtain⟨C,h⟩:=h;rcases h with ⟨u,z,rfl⟩|⟨g,cap,rest,u,rfl,z,E,F,H⟩
 ·exact⟨C,.inl ⟨u,z,rfl⟩⟩
 have j:g≠b:=fun e=>by subst e;exact I u
 exact⟨C,.inr ⟨g,cap,rest,by rw[Ad _ _ j];exact u,Iq _ _ _ j,z,E,F,H⟩⟩
def Af.see (h:Af m0 m v t sz es)(e:m0 b=some o):m b=some o:=h.le b o e
end
section
variable {l:Nat}{m:PH}{o:Obj}
def Alu {l b:Nat}(h:b≠l):(m.upd b o).del l=(m.del l).upd b o:=by
 funext k
 by_cases e:k=l
 ·subst e;rw[Ad _ _ (fun j=>h j.symm)];simp[PH.del]
 by_cases j:k=b
 ·subst j;rw[Ab];simp[PH.del,e,Ab]
 rw[Ad _ _ j];simp[PH.del,e,Ad _ _ j]
def Rk (h:m l=none):(m.upd l o).del l=m:=by
 funext k
 by_cases e:k=l
 ·subst e;simp[PH.del,h]
 simp[PH.del,e,Ad _ _ e]
def Ap6 (m:PH)(l:Nat):PH.le (m.del l) m:=fun g o h=>by
 unfold PH.del at h;split at h
 ·cases h
 exact h
def Axu (m:PH)(l:Nat):m.del l l=none:=by unfold PH.del;simp
def Af.del {m0 m:PH}{v:Value}{t:TypeId}{sz:Nat}{es:zV}{l:Nat}(h:Af m0 m v t sz es)(I:m0 l≠none):Af (m0.del l) (m.del l) v t sz es:=by
 obtain⟨C,h⟩:=h;rcases h with ⟨u,z,rfl⟩|⟨g,cap,rest,u,rfl,z,E,F,H⟩
 ·exact⟨C,.inl ⟨u,z,rfl⟩⟩
 have j:g≠l:=fun e=>by subst e;exact I u
 exact⟨C,.inr ⟨g,cap,rest,by unfold PH.del;rw[if_neg j];exact u,Alu j,z,E,F,H⟩⟩
def Y4 (t et:TypeId)(sz b:Nat)(mr:PH)(es:zV)(m:PH):Prop:=∃ a c,Af (mr.upd b (.cells #[.slice a es.length c] t (0,0))) m (.slice a es.length c) et sz es
def Y4.see {t et:TypeId}{sz b l:Nat}{j m:PH}{es:zV}{o:Obj}(h:Y4 t et sz b j es m)(u:b≠l)(z:j l=some o):m l=some o:=by
 obtain⟨a,c,h⟩:=h;exact h.see (by rw[Ad _ _ (fun e=>u e.symm)];exact z)
def Y4.base {t et:TypeId}{sz b l:Nat}{j m:PH}{es:zV}{o:Obj}(h:Y4 t et sz b j es m)(u:b≠l)(z:j l≠none):Y4 t et sz b (j.upd l o) es (m.upd l o):=by
 obtain⟨a,c,h⟩:=h;refine⟨a,c,?_⟩;rw[Iq _ _ _ (fun e=>u e.symm)];exact h.base (by rw[Ad _ _ (fun e=>u e.symm)];exact z)
end
section
variable {k:Nat}{v:Value}
def Af.fresh {m0 m:PH}{t:TypeId}{sz:Nat}{es:zV}{b:Nat}{o:Obj}(h:Af m0 m v t sz es)(E:m b=none):Af (m0.upd b o) (m.upd b o) v t sz es:=by
 obtain⟨F,h⟩:=h;rcases h with ⟨z,C,rfl⟩|⟨g,cap,rest,z,rfl,C,H,I,J⟩
 ·exact⟨F,.inl ⟨z,C,rfl⟩⟩
 have j:g≠b:=fun e=>by subst e;rw[Ab]at E;cases E
 exact⟨F,.inr ⟨g,cap,rest,by rw[Ad _ _ j];exact z,Iq _ _ _ j,C,H,I,J⟩⟩
section
variable [Cl] [Co] [Pu] {P:Program} [A6 P] {fn:Func} {Post:Ce} {st:List KI×S} {u m:PH}
def G.appendL (e:TypeId)(sz C:Nat)(z:Value)(m0:PH)(es xs:zV)(v:Value)(a:zP)(n c:Nat)(h:Aj P (adv P st)=.app (some (e,sz,C,z)) true [v,.slice a n c])(U:z.cells.toList.all Ax=true)(J:z.cells.size=sz)(H:0<sz)
 (E:Af m0 m v e sz es) (I:Ac u (.slice a n c) sz xs) (T:A9 sz xs) (R:(es.length+xs.length)*C<=140737488355328) (F:es.length+xs.length<=9223372036854775807)
 (k:∀ L K,Af m0 K L e sz (es++xs)->G P fn Post (nx (adv P st) L) u K):G P fn Post st u m:=by
 have t:n=xs.length:=by obtain⟨_,_,Q,_⟩:=I;cases Q;rfl
 cases xs with
 |nil =>
  simp only[A30]at t;subst t;obtain⟨a1,c1,rfl⟩:=E.shape;refine G.append0 e sz C z a1 a es.length c1 c h E.cap ?_;exact k _ _ (by rw[A1x];exact E)
 |cons x xs =>
  obtain⟨b,off,rfl,_⟩:=Ac.at' I (j:=0) (e:=x) rfl;subst t;exact G.append e sz C z m0 es (x::xs) v b off _ c h U J H E I.els T rfl mV R F k
end
def Aue {u:PH}{L:List Par}{p:Par}(h:Ac u v 2 (L.map Ap))(K:L[k]?=some p)(R:∀ j,j<k->L[j]?≠some p)(V:L.length<=1000000) :
 Fn0 prog 209 [v,Ap p] u fun r _=>r=zI k:=by
 obtain⟨a,c,rfl⟩:=h.opn;rw[A03]at h⊢;obtain⟨Q,E⟩:=A05.1 K;refine Fn0.o func209<|G.l (ι:=Nat) (fun i=>[(0,sV a L.length c),(3,.p 0 0),(7,iV L.length),(8,iV i)]) (fun _=>[(0,⟨118,[iV p.1,tV p.2]⟩)])
  (fun i Y T=>i<=k/\T=PH.mt) (fun i=>k+1-i) 0 ⟨oV,rfl⟩ ?_
 rintro J i I Z W F ⟨hi,rfl⟩;refine G.lT i L.length ?_;have t:L[i]?=some L[i]:=A01 oV;obtain⟨U,X,rfl,H⟩:=Ac.at' (h.mono F) (j:=i) (e:=Ap L[i]) (by simp[t]);refine G.n L.length c H ?_;by_cases C:p=L[i]
 ·have z:i=k:=by
   rcases A2e i k with e|e
   ·exact absurd (by rw[t,<-C]) (R i e)
   omega
  exact G.eqAgg 118 #[zI p.1,zS p.2] #[zI L[i].1,zS L[i].2] true kV kV kV (fun w=>by rw[<-decide_eq_true C];exact Bq.eq p L[i] w)<|G.r (zI i) ⟨rfl,by rw[z]⟩
 have z:i≠k:=fun e=>by subst e;exact C E.symm
 exact G.eqAgg 118 #[zI p.1,zS p.2] #[zI L[i].1,zS L[i].2] false kV kV kV (fun w=>by rw[<-decide_eq_false C];exact Bq.eq p L[i] w)<|G.i i<|G.b (I (i+1) _ _ _ cV F ⟨oV,rfl⟩ oV)
def F5 (P:List Par)(L:List (Par×Rat)):zW:=[49]::P.map fun p=>Ae (Fo p L)
def Ae2 (P:List Par)(L:List (Par×Rat)):(F5 P L).length=P.length+1:=by unfold F5;simp
def Ar9 (P:List Par):F5 P [] = [49]::List.replicate P.length [48]:=by
 unfold F5
 congr 1
 have:(fun p:Par=>Ae (Fo p []))=fun _=>[48]:=by funext p;unfold Fo;exact Fz
 rw[this,List.map_const']
def Zb {κ:Type}[DecidableEq κ]{a:κ}{x:κ×Rat}:∀ {L:List (κ×Rat)},x.1∉L.map (·.1)->Fo a (L++[x])=if a=x.1 then x.2 else Fo a L
 |[],_=>by obtain⟨b,q⟩:=x;simp[Fo]
 |(b,q)::L,h=>by
  rw[A2u,A1g,not_or]at h;rw[A4x];unfold Fo;by_cases e:a=b
  ·rw[if_pos e,if_neg (fun j=>h.1 (by rw[<-j,e]))];simp[e]
  rw[if_neg e,Zb h.2];simp[e]
def Yu {κ:Type}{l:List κ}(h:l.Nodup){i j:Nat}{x:κ}(C:l[i]?=some x)(E:l[j]?=some x):i=j:=by
 obtain⟨a1,a2⟩:=A05.1 C;obtain⟨t,z⟩:=A05.1 E;rcases A5u i j with e|e|e
 ·exact absurd (a2.trans z.symm) (A3n.1 h i j a1 t e)
 ·exact e
 exact absurd (z.trans a2.symm) (A3n.1 h j i t a1 e)
def Amm {P:List Par}{L:List (Par×Rat)}{x:Par×Rat}(z:P[k]?=some x.1)(F:P.Nodup)(H:x.1∉L.map (·.1)):(F5 P L).set (k+1) (Ae x.2)=F5 P (L++[x]):=by
 unfold F5;rw[A2j]
 congr 1
 obtain⟨E,h⟩:=A05.1 z;refine A5l mV fun j t I=>?_;rw[List.getElem_set];simp only[A3v];rw[Zb H];by_cases e:k=j
 ·subst e;rw[if_pos rfl,if_pos h]
 rw[if_neg e,if_neg];intro C;simp at t;exact e (Yu F z (by rw[A01 (by simpa using t),C]))
def Anh {u:PH}{v pv tv:Value}{T:List (List UInt8×Nat)}{R:List Br}{F:List Al}{lab:Int}{ss:List (List UInt8)}{Q:List Par}(h:Mv u v tv T R F lab ss)(hQ:Ac u pv 2 (Q.map Ap))(hs:Hb Bk Q)(b8:∀ x∈Dx F ss F.length,x.1∈Q)(hl:Q.length<=100000) :
 Fn0 prog 140 [v,pv,tv] u fun r W=>∃ lv,r=.tuple #[lv,.int .i64 0]/\Ac W lv 1 ((F5 Q (Dx F ss F.length)).map nmV):=by
 have ao:=Lm h;have af:=fun (W:PH) (l:PH.le u W)=>Aql (h.mono l);have aj:=h;have bt:=h.ok.f2;obtain⟨⟨xa,xc,xb,xd,xe,xf,rfl,br,bq,bo⟩,ok,hS,hT⟩:=h;obtain⟨ya,yc,rfl⟩:=hS.opn;obtain⟨pa,pc,rfl⟩:=hQ.opn;rw[A03]at hS ao af aj hQ⊢;rw[A03]at⊢;have ai:=hs.nodup Et;refine Fn0.o func140<|G.c call89 ao ?_;rintro v1 u1 l1 rfl;refine G.nF 0 0<|G.l (ι:=Nat) (fun i=>[(2,sV ya ss.length yc),(3,.p 0 0),(4,.p 1 0),(6,.p 2 0),(7,.p 3 0),(9,iV i)])
  (fun _=>[(0,⟨30,[sV xa T.length xc,sV xb R.length xd,sV xe F.length xf,iV lab]⟩),(1,⟨43,[sV pa Q.length pc]⟩),(2,⟨46,[sV none 0 0]⟩),(3,⟨39,[iV 0]⟩)])
  (fun i W z=>1<=i/\z=PH.mt) (fun i=>Q.length-i) 1 ⟨oV,rfl⟩ ?_
 rintro J i E u2 m2 l2 ⟨hi,rfl⟩;by_cases a3:i<Q.length
 ·refine G.lT i Q.length ?_;have ac:=hQ.mono (l1.trans l2);have az:Q[i]?=some Q[i]:=A01 a3;have b0:Q[i-1]?=some (Q[i-1]'oV):=A01 oV;have b4:Bk (Q[i-1]'oV) Q[i]<0:=A3n.1 hs (i-1) i oV a3 oV;obtain⟨ba,oa,e0,ea⟩:=Ac.at' ac (j:=i) (e:=Ap Q[i]) (by simp[az]);obtain⟨bn,bx,a8,eb⟩:=Ac.at' ac (j:=i-1) (e:=Ap (Q[i-1]'oV)) (by simp[b0]);rw[e0]at a8;cases a8;subst e0;refine G.s i 1 (i-1:Nat)<|G.a ba oa Q.length pc (i-1) 2 oV<|G.lU (some 2) ba (oa+(i-1)*2) (Ap (Q[i-1]'oV)) eb<|G.a ba oa Q.length pc i 2 a3<|G.lU (some 2) ba (oa+i*2) (Ap Q[i]) ea<|G.c call127 (Re _ _ true (decide_eq_true b4)) ?_;rintro v3 u3 l3 rfl;exact G.i i<|G.b (E (i+1) _ _ _ cV (l2.trans l3) ⟨oV,rfl⟩ oV)
 refine G.lF i Q.length ?_;clear E;refine G.pub 1 43 [.slice pa Q.length pc] kV kV ?_;intro K bk bl;refine G.buildM 34 1 16 (.string (mkS [])) [.string (mkS [49])] kV (Gc [[49]]) rfl oV mV mV ?_;intro g3 m3 a9;refine G.B 34 1 16 (.string (mkS [])) [.string (mkS [48])] (Gc [[48]]) ?_;intro g4 u4 l4 e4;have ay:Ac u4 (.slice (some ⟨g4,0,none⟩) 1 1) 1 [.string (mkS [48])]:=⟨_,1,rfl,A08 _,fun j e hj=>⟨g4,0,rfl,e4 j e hj⟩⟩;refine G.lM none K 0 (.slice pa Q.length pc) (My (xs:=[.slice pa Q.length pc]) (a9.see (Ab _ _ _)) rfl)<|G.c call207 (Ao2 (n:=Q.length) ay (Gc [[48]]) oV) ?_;intro v5 u5 l5 k5;obtain⟨a5,c5,rfl⟩:=Ac.opn k5;have b5:(F5 Q []).map nmV = [Value.string (mkS [49])]++List.replicate Q.length (Value.string (mkS [48])):=by
  rw[Ar9,A2u,A8z];rfl
 refine G.appendL 34 1 16 (.string (mkS [])) _ [.string (mkS [49])] (List.replicate Q.length (.string (mkS [48]))) _ a5 _ c5 kV rfl rfl oV a9 k5 ((Gc [[48]]).replicate _) gV gV ?_;intro v6 m6 U;rw[<-b5]at U;obtain⟨a6,c6,rfl⟩:=U.shape;refine G.pub 9006 46 [.slice a6 ((F5 Q []).map nmV).length c6] kV kV ?_;intro b bs a1;have ae:m6 K=some (.cells [Value.slice pa Q.length pc].toArray 43 (0,0)):=U.see (Ab _ _ _);have a2:b≠K:=fun e=>by subst e;rw[ae]at a1;cases a1
 have ap:=U.fresh (o:=.cells [Value.slice a6 ((F5 Q []).map nmV).length c6].toArray 46 (0,0)) a1;have a7:PH.le u u5:=(((l1.trans l2).trans l4).trans l5);refine G.c call208 (af u5 a7) ?_;rintro v8 u8 l8 ⟨b1,b2,rfl,e1,e2⟩;obtain⟨C,V⟩:∃ C,C=Pj K (.cells [Value.slice pa Q.length pc].toArray 43 (0,0)):=⟨_,rfl⟩;have aq:Y4 46 34 1 b C ((F5 Q []).map nmV) (m6.upd b (.cells [Value.slice a6 ((F5 Q []).map nmV).length c6].toArray 46 (0,0))):=by
  rw[V];exact⟨a6,c6,ap⟩
 have bd:C K=some (.cells [Value.slice pa Q.length pc].toArray 43 (0,0)):=by rw[V];exact Ck _ _
 have b6:∀ {es:List Value} {z:PH},Y4 46 34 1 b C es z->PH.le C z:=fun h=>(by
  obtain⟨a,c,h⟩:=h;exact fun g o hg=>h.see (by rw[Ad _ _ (fun e=>by rw[V]at hg;rw[e,Mz _ a2]at hg;cases hg)];exact hg))
 refine G.rangeF (rfG Tryz.f140) (A0v Tryz.f140) (rfX Tryz.f140) (rfY Tryz.f140) 251 [.pointer (some ⟨b1,0,none⟩),.pointer (some ⟨b2,0,none⟩)] (fun W z=>Y4 46 34 1 b C ((F5 Q (Dx F ss F.length)).map nmV) z) kV kV kV call251 ?_ ?_
 ·intro l r r1 r2 r3 r4 r5 r6 r7 I ag;have t:b≠l:=fun e=>by subst e;rw[Ab]at I;cases I
  have ak:K≠l:=fun e=>by subst e;rw[Ad _ _ (fun e=>a2 e.symm),ae]at I;cases I
  have ah:C l=none:=by rw[V];exact Mz _ (fun e=>ak e.symm)
  have al:r.params = #[46,47]:=r3.trans kV;have hn:r.tmps.size=59:=r6.trans kV;have bf:r.tmps[4]?=some (.pointer (some ⟨K,0,none⟩)):=r7 4 _ kV;have an:r.tmps[10]?=some (.pointer (some ⟨b,0,none⟩)):=r7 10 _ kV;have a4:∀ {es:List Value} {z:PH},Y4 46 34 1 b (C.upd l (.loop r)) es z->z l=some (.loop r):=fun h=>h.see t (Ab _ _ _);refine Ag.weak (Arp (aj.mono (a7.trans l8)) e1 e2 (fun L W z=>PH.le u8 W/\Y4 46 34 1 b (C.upd l (.loop r)) ((F5 Q L).map nmV) z) (fun _ _ _ _ hl h=>⟨h.1.trans hl,h.2⟩) (fun i x W z hi hl E hx bu=>?_) ?_) ?_
  ·obtain⟨ab,E⟩:=E;have bg:=b8 x hx;obtain⟨k,hk,bb⟩:=A2y bg;have H:Q[k]?=some x.1:=by rw[A01 hk,bb]
   have bh:x.1∉(Dx F ss i).map (·.1):=fun hm=>by
    obtain⟨y,hy,bi⟩:=A1b.1 hm;obtain⟨j,f,hj,_,hv⟩:=F9.1 hy;have:=Ow hv;rw[bi]at this;omega
   refine Amn (n:=59) (T:=[(4,.pointer (some ⟨K,0,none⟩)),(10,.pointer (some ⟨b,0,none⟩)),(46,Ap x.1),(47,.string (mkS (Ae x.2)))]) (a4 E) r1 r2 (by rw[al];rfl) hn (fun y hy=>?_) ?_
   ·rw[al,Aje];simp only[A1g,A11,or_false]at hy;rcases hy with rfl|rfl|rfl|rfl
    ·rw[A2m mV,A2m mV];exact bf
    ·rw[A2m mV,A2m mV];exact an
    ·rw[A2m mV];simp[hn]
    simp[hn]
   rw[r4,r5];refine RW.seq' kV (RW.reg' Tryz.f140 kV fun Post J' ar=>?_);refine G.b (ar _ _ _ (RW.reg' Tryz.f140 kV fun Post J2 au=>?_));have a0:=E.base (o:=.loop (Vg r)) t (by rw[Ab];simp);rw[Dp]at a0;have be:(z.upd l (.loop (Vg r))) K=some (.cells [Value.slice pa Q.length pc].toArray 43 (0,0)):=a0.see a2.symm.symm (by rw[Ad _ _ ak];exact bd);obtain⟨a,c,X⟩:=a0;have b3:∀ {n c':Nat} {a':Option Addr},((C.upd l (.loop (Vg r))).upd b (.cells #[.slice a' n c'] 46 (0,0))) b=some (.cells [Value.slice a' n c'].toArray 46 (0,0)):=Ab _ _ _;refine G.b (au _ _ _ ⟨a4 E,RW.block' kV (RW.seq' kV (RW.reg' Tryz.f140 kV fun Post J3 av=>?_))⟩);refine G.lM none K 0 (.slice pa Q.length pc) (My (xs:=[.slice pa Q.length pc]) be rfl)<|G.c call209 (Aue (hQ.mono ((a7.trans l8).trans ab)) H (fun j hj b9=>?_) oV) ?_
   ·have:=Yu ai b9 H;omega
   rintro v9 u9 l9 rfl;refine G.b (av _ _ _ (RW.seq' kV (RW.seq' kV (RW.reg' Tryz.f140 kV fun Post J4 aw=>?_))));refine G.lF k 0<|G.b (aw _ _ _ (RW.condF' kV kV (RW.skip' kV ?_)));refine RW.reg' Tryz.f140 kV fun Post J5 ax=>?_;refine G.lM none b 0 (.slice a ((F5 Q (Dx F ss i)).map nmV).length c) (My (xs:=[.slice a ((F5 Q (Dx F ss i)).map nmV).length c]) (X.see b3) rfl) ?_;obtain⟨g,c',b7⟩:=X.ptr (by unfold F5;simp);cases b7;refine G.i k ?_;have bm:((F5 Q (Dx F ss i)).map nmV).length=Q.length+1:=by rw[A03,Ae2]
   refine G.a g 0 ((F5 Q (Dx F ss i)).map nmV).length c (k+1) 1 oV<|G.storeA 1 _ ((F5 Q (Dx F ss i)).map nmV) g ((F5 Q (Dx F ss i)).map nmV).length c (k+1) (.string (mkS (Ae x.2))) kV X oV rfl rfl ?_;intro bj Y;have am:((F5 Q (Dx F ss i)).map nmV).set (k+1) (.string (mkS (Ae x.2)))=(F5 Q (Dx F ss i++[x])).map nmV:=by
    rw[<-Amm H ai bh,A2g];rfl
   have ag:((F5 Q (Dx F ss i)).map nmV).length=((F5 Q (Dx F ss i++[x])).map nmV).length:=by simp[Ae2]
   rw[am,ag]at Y;have hB:Y4 46 34 1 b (C.upd l (.loop (Vg r))) ((F5 Q (Dx F ss i++[x])).map nmV) bj:=⟨_,_,Y⟩;refine G.b (ax _ _ _ ⟨hB.see t (Ab _ _ _),ab.trans l9,?_⟩);have aa:=hB.base (o:=.loop r) t (by rw[Ab];simp);rw[Dp]at aa;exact aa
  ·refine⟨PH.le_refl _,?_⟩;obtain⟨a,c,h⟩:=aq;refine⟨a,c,?_⟩;rw[Iq _ _ _ (fun e=>t e.symm)];exact h.fresh I
  rintro v' W z ⟨_,E⟩;refine⟨r,by rw[r1];simp,r2,a4 E,z.del l,Ap6 _ _,Axu _ _,?_⟩;obtain⟨a,c,X⟩:=E;have:=X.del (l:=l) (by rw[Ad _ _ (fun e=>t e.symm),Ab];simp);rw[Alu t,Rk ah]at this;exact⟨a,c,this⟩
 rintro u9 m9 l9 ⟨a,c,X⟩;refine G.giveP (ma:=m9) (sm:=PH.mt) kV (by funext g;unfold PH.or;cases m9 g<;>rfl) (fun g=>.inr rfl) (fun g=>.inl rfl) ?_
 intro bz bw Z;have ad:m9 b=some (.cells [Value.slice a ((F5 Q (Dx F ss F.length)).map nmV).length c].toArray 46 (0,0)):=X.see (Ab _ _ _);exact G.lU none b 0 (.slice a ((F5 Q (Dx F ss F.length)).map nmV).length c) ((My (xs:=[.slice a ((F5 Q (Dx F ss F.length)).map nmV).length c]) ad rfl).mono Z)<|G.r (.tuple #[.slice a ((F5 Q (Dx F ss F.length)).map nmV).length c,.int .i64 0]) ⟨rfl,_,rfl,X.list Z⟩
end
section
variable {N:Nat}{k:Par×Par}{q:Rat}
def Awv (T:TypeId):Op->Bool
 |.indexAddr t _ _=>Nat.beq t T
 |_=>false
section
variable {P:Program} [A6 P] {fn:Func} {Post:Ce} {st:List KI×S} {u m:PH}
def G.addrA (t e:TypeId)(n b off j sz:Nat)(h:Aj P (adv P st)=.addr none (.pointer (some ⟨b,off,none⟩)) (zI j))(R:Yr (Awv t) (adv P st)=true)(V:P.underlying t=some (.array n e))(T:szB P e=some sz)(Z:j<n)
 (k:G P fn Post (nx (adv P st) (.pointer (some ⟨b,off+j*sz,none⟩))) u m):G P fn Post st u m:=by
 refine G.askQ (Awv t) h R mV (fun Q o z F w _=>?_) k;obtain⟨t',X,I,C,K,L,_⟩:=Z1 z;rw[C]at F;have U:=A1y F;subst U;obtain⟨J,W,H,pos,after,E⟩:=o;simp only at C;subst C;simp[execOp,Instr.indexAt,Instr.sureAddr,asIntOf,K,L,run_underlying V,Bf T,Ed];intro Y;omega
end
def Aly {m:PH}{b:Nat}{t:TypeId}(h:m b=some (.cells [Value.int .i64 k.1.1,zS k.1.2,zI k.2.1,zS k.2.2].toArray t (0,0))):ElP m b (0+0*2) (Ap k.1)/\ElP m b (0+1*2) (Ap k.2):=by
 have h0:ElP m b 0 (.agg #[zI k.1.1,zS k.1.2,zI k.2.1,zS k.2.2]):=My h rfl;refine⟨h0.sub (k:=0) fun i y e=>?_,h0.sub (k:=2) fun i y e=>?_⟩
 ·match i,e with
  |0,e=>simpa[Ap,Value.cells] using e
  |1,e=>simpa[Ap,Value.cells] using e
 match i,e with
 |0,e=>simpa[Ap,Value.cells] using e
 |1,e=>simpa[Ap,Value.cells] using e
def SB.ten (h:SB q):Sz q 10000000000:=h.sz.mono oV
def KO.fix (h:KO k):Ay k.1 k.2=k:=by unfold Ay;rw[if_neg h]
def D7.at {κ:Type}[DecidableEq κ]{enc:κ->Value}{K:κ->Prop}{u:PH}{o:Obj}{f:κ->Rat}(h:D7 enc K u o f N) :
 ∃ l:List (κ×Value),Hu enc o l/\(∀ p∈l,QP u p.2 (f p.1)/\K p.1)/\(∀ k,k∉l.map (·.1)->f k=0)/\l.length<=N:=by
 obtain⟨l,j,e,t,z⟩:=h;exact⟨l,j,fun p hp=>⟨(e p hp).1,(e p hp).2.1⟩,t,z⟩
def Ar1 {u mf:PH}{F H:CF}{N M:Nat}{vf vg vk:Value}(hf:Kk mf u vf F N)(hg:R9 u vg H M)(hk:QP u vk q)(hq:SB q)(sF:CFS F)(sH:CFS H)(sK:CFS (H.scale q))(sR:CFS (F.add (H.scale q))) :
 Ag prog 48 [vf,vg,vk] u mf fun v u' m'=>Kk m' u' v (F.add (H.scale q)) (N+M):=by
 obtain⟨b,a,n,c,b',a',n',c',g1,g2,o1,o2,rfl,hF,aa,rfl,h1,h2⟩:=hf;obtain⟨wb,wa,wn,wc,az,ay,b3,b0,w1,w2,p1,p2,rfl,hH,e1,e2,k1,k2⟩:=hg;obtain⟨kb,ka,kn,kc,au,aw,av,rfl,_⟩:=hk.opn;obtain⟨l1,⟨es1,z,rfl,ad,a0⟩,b9,bd,bt⟩:=k1.at;obtain⟨l2,⟨X,h,rfl,ae,a3⟩,ba,be,bu⟩:=k2.at;have aq:(l1.map (·.1)).Nodup:=Hu.nodup (enc:=Ap) ⟨es1,z,rfl,ad,a0⟩;have ar:(l2.map (·.1)).Nodup:=Hu.nodup (enc:=prV) ⟨X,h,rfl,ae,a3⟩;refine Ag.o func48<|G.c call28 (Gh hH hk (SB.ten sH.c) hq.ten) ?_;intro v1 u1 ax r1;obtain⟨b1,a1,x1,c1,bo,bx,bp,rfl,_⟩:=r1.opn;refine G.c call26 (Pd (hF.mono ax) r1 (SB.ten sF.c) (SB.ten sK.c)) ?_;intro v2 u2 bf r2;obtain⟨b2,a2,x2,c2,V,a7,W,rfl,_⟩:=r2.opn;have a5:=ax.trans bf;obtain⟨m2,bb,ah,ai⟩:∃ m2:PH,m2=(PH.mt.upd g1 o1).upd g2 o2/\m2 g1=some o1/\m2 g2=some o2:=⟨_,rfl,by rw[Ad _ _ aa,Ab],Ab _ _ _⟩;rw[<-bb];refine G.mapRange w1 es1 z 118 69 kV (.inl (a5 _ _ e1)) ?_;intro it an bs;have i1:g1≠it:=fun e=>by subst e;rw[an]at ah;cases ah
 have i2:g2≠it:=fun e=>by subst e;rw[an]at ai;cases ai
 refine G.l (ι:=List MapEntry×List (Par×Value)) (fun _=>[(3,.p 0 0),(4,.p 1 0),(5,.p 2 0),(6,.p 3 0),(21,.v (.pointer (zA it)))])
  (fun _=>[(0,⟨108,[bV b2,sV a2 x2 c2,bV false,sV V a7 W,.v (.map (some g1)),.v (.map (some g2))]⟩),(1,⟨108,[bV wb,sV wa wn wc,bV az,sV ay b3 b0,.v (.map (some w1)),.v (.map (some w2))]⟩),(2,⟨69,[bV kb,sV ka kn kc,bV false,sV au aw av]⟩),(3,⟨108,[bV false,sV none 0 0,bV false,sV none 0 0,.v (.map none),.v (.map none)]⟩)])
  (fun i u' m'=>Gj Ap es1 l1 i.1 i.2/\m' it=some (.mapIter (some w1) z (Ar i.1) z)/\m' g2=some o2/\∃ I,m' g1=some I/\D7 Ap KT u' I (Ek F.s H.s q (i.2.map (·.1))) (N+i.2.length))
  (fun i=>l1.length-i.2.length) ([],[])
  ⟨Gj.nil _ _,Ab _ _ _,by rw[Ad _ _ i2];exact ai,o1,by rw[Ad _ _ i1];exact ah,by
   have:Ek F.s H.s q (([]:List (Par×Value)).map (·.1))=F.s:=by funext k;simp[Ek]
   dsimp only;rw[this];exact h1.mono a5⟩ ?_
 rintro J ⟨D,L⟩ hJ u3 m3 aj ⟨hS,ao,C,I,Z,hR⟩;simp only at hS ao C Z hR hJ;have j:=a5.trans aj;refine G.mapNextL Bq.inj it w1 es1 z l1 D L kV kV ao (.inl (j _ _ e1)) a0 ad aq hS ?done1 ?next1
 case next1 =>
  rintro⟨k,xv⟩ e hp hkn he hek hev hS';simp only at hkn hek hev;have hx:=(b9 _ hp).1;simp only at hx;obtain⟨yb,ya,yn,yc,bj,bl,bk,rfl,_⟩:=hx.opn;refine G.mapEntry it w1 es1 z D e kV (Ab _ _ _) (.inl (j _ _ e1)) a0 he ?_;rw[hek,hev];refine G.c call28 (Gh (hx.mono j) (hk.mono j) (SB.ten (sH.s k)) hq.ten) ?_;intro v4 u4 a6 r4;obtain⟨b4,a4,x4,c4,b5,bi,b6,rfl,_⟩:=r4.opn;refine G.callG _ _ kV kV call109 (g:=g1) (o:=I) (by rw[Ad _ _ i1];exact Z)
   (Oi (g2:=some g2) (y1:=b2) (y2:=(a2,x2,c2)) (y3:=false) (y4:=(V,a7,W)) (hR.mono a6) r4 (sK.s k) (O3 sF.s sR.s k) (by
    have:Ek F.s H.s q (L.map (·.1)) k=F.s k:=by unfold Ek;rw[if_neg hkn]
    rw[this,A46];exact sR.s k)) ?_
  intro v5 u5 o5 ak r5;rw[Jo _ _ _ hkn]at r5;refine G.b (hJ (D++[e],L++[(k,_)]) _ _ _ cV ((aj.trans a6).trans ak)
   ⟨hS',by rw[Ad _ _ (Ne.symm i1),Ab],by rw[Ad _ _ (Ne.symm aa),Ad _ _ i2];exact C,o5,Ab _ _ _,by
    simpa[A3p] using r5⟩ (by have:=hS'.len;simp at this;dsimp only;simp;omega))
 case done1 =>
 intro am;have b7:Ek F.s H.s q (L.map (·.1))=(F.add (H.scale q)).s:=Me _ _ _ fun k hk=>bd k fun hm=>hk (by
  obtain⟨p,hp,rfl⟩:=A1b.1 hm;exact A1b.2 ⟨p,am p hp,rfl⟩)
 rw[b7]at hR;have br:=hS.len;refine G.mapRange w2 X h 175 69 kV (.inl (j _ _ e2)) ?_;intro E ab bn;have j1:g1≠E:=fun e=>by subst e;rw[ab]at Z;cases Z
 have j2:g2≠E:=fun e=>by subst e;rw[ab]at C;cases C
 refine G.l (ι:=List MapEntry×List ((Par×Par)×Value)) (fun _=>[(3,.p 0 0),(4,.p 1 0),(5,.p 2 0),(6,.p 3 0),(35,.v (.pointer (zA E)))])
  (fun _=>[(0,⟨108,[bV b2,sV a2 x2 c2,bV false,sV V a7 W,.v (.map (some g1)),.v (.map (some g2))]⟩),(1,⟨108,[bV wb,sV wa wn wc,bV az,sV ay b3 b0,.v (.map (some w1)),.v (.map (some w2))]⟩),(2,⟨69,[bV kb,sV ka kn kc,bV false,sV au aw av]⟩),(3,⟨108,[bV false,sV none 0 0,bV false,sV none 0 0,.v (.map none),.v (.map none)]⟩)])
  (fun i u' m'=>Gj prV X l2 i.1 i.2/\m' E=some (.mapIter (some w2) h (Ar i.1) h)/\m' g1=some I/\∃ U,m' g2=some U/\D7 prV KO u' U (Ek F.t H.t q (i.2.map (·.1))) (N+i.2.length))
  (fun i=>l2.length-i.2.length) ([],[])
  ⟨Gj.nil _ _,Ab _ _ _,by rw[Ad _ _ j1];exact Z,o2,by rw[Ad _ _ j2];exact C,by
   have:Ek F.t H.t q (([]:List ((Par×Par)×Value)).map (·.1))=F.t:=by funext k;simp[Ek]
   dsimp only;rw[this];exact h2.mono j⟩ ?_
 rintro J2 ⟨D2,L2⟩ al u6 m6 a9 ⟨af,ac,Q,U,K,a8⟩;simp only at af ac Q K a8 al;have R:=j.trans a9;refine G.mapNextL I1.inj E w2 X h l2 D2 L2 kV kV ac (.inl (R _ _ e2)) a3 ae ar af ?done2 ?next2
 case next2 =>
  rintro⟨k,xv⟩ e hp hkn he hek hev hS';simp only at hkn hek hev;obtain⟨hx,ap⟩:=ba _ hp;simp only at hx ap;have Y:=ap.fix;obtain⟨yb,ya,yn,yc,bj,bl,bk,rfl,_⟩:=hx.opn;refine G.mapEntry E w2 X h D2 e kV (Ab _ _ _) (.inl (R _ _ e2)) a3 he ?_;rw[hek,hev];refine G.pub 8003 175 [zI k.1.1,zS k.1.2,zI k.2.1,zS k.2.2] kV kV ?_;intro bq bw T;have q1:g1≠bq:=fun e=>by subst e;rw[Ad _ _ j1,Q]at T;cases T
  have q2:g2≠bq:=fun e=>by subst e;rw[Ad _ _ j2,K]at T;cases T
  have q3:E≠bq:=fun e=>by subst e;rw[Ab]at T;cases T
  obtain⟨bg,bh⟩:=Aly (m:=(m6.upd E (.mapIter (some w2) h (Ar (D2++[e])) h)).upd bq (.cells [Value.int .i64 k.1.1,zS k.1.2,zI k.2.1,zS k.2.2].toArray 175 (0,0))) (Ab _ _ _);refine G.addrA 175 118 2 bq 0 0 2 kV kV kV kV oV<|G.v (some 2) bg<|G.addrA 175 118 2 bq 0 1 2 kV kV kV kV oV<|G.v (some 2) bh<|G.c call28 (Gh (hx.mono R) (hk.mono R) (SB.ten (sH.t k)) hq.ten) ?_;intro v4 u4 a6 r4;obtain⟨b4,a4,x4,c4,b5,bi,b6,rfl,_⟩:=r4.opn;refine G.callG _ _ kV kV call110 (g:=g2) (o:=U) (by rw[Ad _ _ q2,Ad _ _ j2];exact K)
   (H7 (g1:=some g1) (y1:=b2) (y2:=(a2,x2,c2)) (y3:=false) (y4:=(V,a7,W)) (p:=k.1) (r:=k.2) (a8.mono a6) r4 (sK.t k) (by rw[Y];exact O3 sF.t sR.t k) (by
    have:Ek F.t H.t q (L2.map (·.1)) k=F.t k:=by unfold Ek;rw[if_neg hkn]
    rw[Y,this,A46];exact sR.t k)) ?_
  intro v5 u5 o5 ak r5;rw[Y,Jo _ _ _ hkn]at r5;refine G.b (al (D2++[e],L2++[(k,_)]) _ _ _ cV ((a9.trans a6).trans ak)
   ⟨hS',by rw[Ad _ _ (Ne.symm j2),Ad _ _ q3,Ab],by rw[Ad _ _ aa,Ad _ _ q1,Ad _ _ j1];exact Q,o5,Ab _ _ _,by
    simpa[A3p] using r5⟩ (by have:=hS'.len;simp at this;dsimp only;simp;omega))
 case done2 =>
 intro ag;have b8:Ek F.t H.t q (L2.map (·.1))=(F.add (H.scale q)).t:=Me _ _ _ fun k hk=>be k fun hm=>hk (by
  obtain⟨p,hp,rfl⟩:=A1b.1 hm;exact A1b.2 ⟨p,ag p hp,rfl⟩)
 rw[b8]at a8;have bm:=af.len;refine G.drop ((PH.mt.upd g1 I).upd g2 U) kV (fun g o hg=>by
  by_cases e:g=g2
  ·subst e;rw[Ab]at hg;cases hg;exact K
  rw[Ad _ _ e]at hg;by_cases e:g=g1
  ·subst e;rw[Ab]at hg;cases hg;exact Q
  rw[Ad _ _ e]at hg;cases hg) ?_
 exact G.r (.agg #[.bool b2,.slice a2 x2 c2,zL,.slice V a7 W,.map (some g1),.map (some g2)]) ⟨_,_,_,_,_,_,_,_,g1,g2,I,U,rfl,r2.mono (aj.trans a9),aa,rfl,(hR.mono a9).up oV,a8.up oV⟩
end
end Go.Proofs.YtemmheaocgmebaaGreatDoor
