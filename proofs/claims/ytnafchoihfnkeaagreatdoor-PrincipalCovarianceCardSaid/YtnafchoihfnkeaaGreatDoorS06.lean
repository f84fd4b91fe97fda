/- Parts of one proof, joined by a program. -/
import Derived.Test.YtnafchoihfnkeaaGreatDoorS05
set_option linter.defProp false
set_option linter.unusedVariables false
set_option linter.unusedSimpArgs false
set_option linter.unusedSectionVars false
set_option maxHeartbeats 16000000
namespace Go.Proofs.YtnafchoihfnkeaaGreatDoor
open Go.Proofs.Tryz
open Go.RowKit
def Axt:=@Nat.le_of_dvd
def Awi:=@Nat.min_le_right
def Ayj:=@Nat.min_le_left
def Ayk:=@Array.eq_empty_of_size_eq_zero
def Ayx:=@List.mem_iff_getElem
def Aya:=@List.getElem?_cons_succ
def Aw5:=@List.map_replicate
section
variable {c j n sz:Nat}{e v:Value}{es:List Value}
section lists
variable {α:Type} {R:PH->Value->α->Prop} {u u':PH}
def AtP (R:PH->Value->α->Prop)(u:PH)(es:List Value)(xs:List α):Prop:=es.length=xs.length/\∀ (j:Nat) (x:α),xs[j]?=some x->∃ e,es[j]?=some e/\R u e x
def AtP.nil:AtP R u [] []:=⟨rfl,fun j x h=>by simp at h⟩
def AtP.mono {xs:List α}(g:∀ e x,R u e x->R u' e x)(h:AtP R u es xs):AtP R u' es xs :=
 ⟨h.1,fun j x m=>by obtain⟨e,d,f⟩:=h.2 j x m;exact⟨e,d,g e x f⟩⟩
theorem AtP.snoc {xs:List α}{x:α}(h:AtP R u es xs)(z:R u e x):AtP R u (es++[e]) (xs++[x]):=by
 refine⟨by simp[h.1],fun j r d=>?_⟩;by_cases f:j<xs.length
 ·rw[Atl f]at d;obtain⟨g,m,t⟩:=h.2 j r d;exact⟨g,by rw[Atl (by rw[h.1];exact f)];exact m,t⟩
 rw[At1 oV]at d;have:j-xs.length=0:=by grind
 rw[this]at d;simp at d;subst d;refine⟨e,?_,z⟩;rw[At1 (by rw[h.1];omega),h.1,this];rfl
def AtP.set {xs:List α}{x:α}(h:AtP R u es xs)(k:Nat)(f:R u e x):AtP R u (es.set k e) (xs.set k x):=by
 refine⟨by simp[h.1],fun j r d=>?_⟩;rw[Au5]at d⊢;split at d
 ·rename_i e';subst e';split at d
  ·rename_i hlt;simp only[Atd]at d;subst d;exact⟨e,by rw[if_pos rfl,if_pos (by rw[h.1];exact hlt)],f⟩
  cases d
 rename_i e';rw[if_neg e'];exact h.2 j r d
def LP (R:PH->Value->α->Prop)(sz:Nat)(u:PH)(v:Value)(xs:List α):Prop:=∃ es,Ad u v sz es/\AtP R u es xs
def LP.mono {sz:Nat}{v:Value}{xs:List α}(g:∀ e x,R u e x->R u' e x)(h:LP R sz u v xs)(m:PH.le u u'):LP R sz u' v xs:=by
 obtain⟨es,d,f⟩:=h;exact⟨es,d.mono m,f.mono g⟩
def LP.opn {sz:Nat}{v:Value}{xs:List α}(h:LP R sz u v xs):∃ a c,v=.slice a xs.length c:=by
 obtain⟨es,d,f⟩:=h;obtain⟨a,c,rfl⟩:=d.opn;exact⟨a,c,by rw[f.1]⟩
def LP.at {a:Option Addr}{xs:List α}(h:LP R sz u (.slice a n c) xs){x:α}(z:xs[j]?=some x):∃ b off e,a=some ⟨b,off,none⟩/\ElP u b (off+j*sz) e/\R u e x:=by
 obtain⟨es,m,t⟩:=h;obtain⟨e,d,f⟩:=t.2 j x z;obtain⟨b,off,rfl,g⟩:=m.at' d;exact⟨b,off,e,rfl,g,f⟩
end lists
def T7 (u:PH)(v:Value)(zs:List Int):Prop:=LP Bx 2 u v zs
def Wm (u:PH)(v:Value)(zs:List (List Int)):Prop:=LP T7 1 u v zs
def Ul (u:PH)(v:Value)(qs:List (List Rat)):Prop:=LP Bn 1 u v qs
def T7.mono {u u':PH}{v:Value}{f:List Int}(h:T7 u v f)(d:PH.le u u'):T7 u' v f:=LP.mono (fun _ _ h=>h.mono d) h d
def Wm.mono {u u':PH}{v:Value}{f:List (List Int)}(h:Wm u v f)(d:PH.le u u'):Wm u' v f:=LP.mono (fun _ _ h=>h.mono d) h d
def Ul.mono {u u':PH}{v:Value}{f:List (List Rat)}(h:Ul u v f)(d:PH.le u u'):Ul u' v f:=LP.mono (fun _ _ h=>h.mono d) h d
def Bn.lp {u:PH}{d:List Rat}(h:Bn u v d):LP An 4 u v d:=h
def G5 (a:Option Addr)(n c:Nat):Ax 1 [.slice a n c]:=Oj (by intro e d;simp at d;exact⟨_,_,_,d⟩)
theorem Ae.some' {m0 m:PH}{t:TypeId}{a:Addr}(d:Ae m0 m (.slice (some a) n c) t sz es):∃ g,a=⟨g,0,none⟩/\m0 g=none:=by
 rcases d.2 with ⟨h,_,_⟩|⟨g,cap,rest,h0,_,h,_⟩
 ·grind
 grind
def Al7 {α:Type}{l:List α}{e z:α}(d:l.length=j)(f:j<n):(l++List.replicate (n-j) z).set j e=l++[e]++List.replicate (n-(j+1)) z:=by
 subst d;rw[show n-l.length=(n-(l.length+1))+1 by omega,A0b];simp
def Ard (d e:Nat):((d:Int)/((Nat.gcd (d:Int).natAbs (e:Int).natAbs:Nat):Int)*(e:Int))=((Nat.lcm d e:Nat):Int):=by
 rw[Atv,Atv,Nat.lcm,<-Nat.div_mul_right_comm (A04 d e)];rfl
def Aqi (u:PH)(v:Value)(D:Nat)(cs:List (List Int)):Prop:=∃ b a n c a' n' c',v=.agg #[.bool b,.slice a n c,.slice a' n' c']/\Bx u (.agg #[.bool b,.slice a n c]) (D:Int)/\Wm u (.slice a' n' c') cs
def G1 (D:Nat)(r:List Rat):List Int:=r.map fun q=>q.num*((D/q.den:Nat):Int)
structure DI where
 b:Bool
 a:Option Addr
 n:Nat
 c:Nat
 D:Nat
def Asx (d:DI):Value:=.agg #[.bool d.b,.slice d.a d.n d.c]
def Abs (u:PH)(d:DI)(L:Nat):Prop:=Bx u (Asx d) (d.D:Int)/\0<d.D/\d.D ∣ L
def Abs.mono {u u':PH}{d:DI}{L:Nat}(h:Abs u d L)(f:PH.le u u'):Abs u' d L:=⟨h.1.mono f,h.2⟩
def Apd {u:PH}{A:List (List Rat)}{L:Nat}(h:Bw u v (Bq A))(hT:∀ r∈A,∀ q∈r,Tx q)(hl:A.length<=1000000)(ac:∀ r∈A,r.length<=1000000)(hL:∀ r∈A,∀ q∈r,q.den ∣ L)(b9:0<L)(bc:nl L<=1000000000) :
 Fn0 prog 114 [v] u fun v' u'=>∃ D,0<D/\D ∣ L/\(∀ r∈A,∀ q∈r,q.den ∣ D)/\Aqi u' v' D (A.map (G1 D)):=by
 obtain⟨a,c,rfl⟩:=h.opn;rw[Ba]at h⊢;have a9:∀ D:Nat,D ∣ L->nl (D:Int).natAbs<=1000000000:=fun D N=>As9 (Ct (Axt b9 N)) bc;refine Fn0.o func114<|G.c call113 (Qn (z:=1) oV oV) ?_;intro v1 u1 l1 k1;obtain⟨b1,a1,n1,c1,rfl⟩:=k1.opn;refine G.l (ι:=Nat×List Value×(Option Addr×Nat×Nat)×DI)
  (fun i=>[(2,.p 0 0),(3,.p 1002 0),(4,sV i.2.2.1.1 i.2.2.1.2.1 i.2.2.1.2.2),(19,sV a A.length c),(20,iV A.length),(21,iV i.1)])
  (fun i=>[(0,⟨195,[bV false,sV none 0 0,sV none 0 0]⟩),(1002,⟨195,[bV i.2.2.2.b,sV i.2.2.2.a i.2.2.2.n i.2.2.2.c,sV none 0 0]⟩)])
  (fun i u' m'=>i.1<=A.length/\AtP Bn u' i.2.1 (A.take i.1)/\Ae PH.mt m' (.slice i.2.2.1.1 i.2.2.1.2.1 i.2.2.1.2.2) 123 1 i.2.1/\Abs u' i.2.2.2 L/\∀ r∈A.take i.1,∀ q∈r,q.den ∣ i.2.2.2.D)
  (fun i=>A.length-i.1) (0,[],(none,0,0),⟨b1,a1,n1,c1,1⟩)
  ⟨Atu _,AtP.nil,Ae.nil _ _ _,⟨k1,Nat.one_pos,Nat.one_dvd _⟩,fun r C=>by simp at C⟩ ?_
 rintro J ⟨k,Ir,⟨a2,n2,c2⟩,⟨db,da,dn,dc,D⟩⟩ hJ u2 m2 l2 ⟨hk,hF,hA,N,Q⟩;simp only at hk hF hA N Q hJ;have bf:=hF.1;rw[Atm]at bf;by_cases I:k<A.length
 ·refine G.lT k A.length ?_;have m:A[k]?=some A[k]:=As5 I;have f:=Ath I;obtain⟨ba,oa,a3,c3,rfl,e3,s3⟩:=(h.mono (l1.trans l2)).row (Es m);rw[Ata]at e3 s3;refine G.a ba oa A.length c k 1 oV<|G.lU none ba (oa+k*1) _ e3<|G.c call117 (Qe s3 (hT _ f) (ac _ f)) ?_;intro v4 u4 l4 k4;obtain⟨a4,Z,rfl⟩:=k4.lp.opn;refine G.l (ι:=Nat×DI)
   (fun i=>[(2,.p 0 0),(3,.p 1002 0),(4,sV a2 n2 c2),(19,sV (some ⟨ba,oa,none⟩) A.length c),(20,iV A.length),(21,iV k),(7,sV a4 A[k].length Z),(27,sV a4 A[k].length Z),(28,iV (A[k].length)),(29,iV i.1)])
   (fun i=>[(0,⟨195,[bV false,sV none 0 0,sV none 0 0]⟩),(1002,⟨195,[bV i.2.b,sV i.2.a i.2.n i.2.c,sV none 0 0]⟩)])
   (fun i u' m'=>i.1<=A[k].length/\m'=m2/\Abs u' i.2 L/\(∀ r∈A.take k,∀ q∈r,q.den ∣ i.2.D)/\∀ q∈A[k].take i.1,q.den ∣ i.2.D)
   (fun i=>A[k].length-i.1) (0,⟨db,da,dn,dc,D⟩)
   ⟨Atu _,rfl,N.mono l4,Q,fun q t=>by simp at t⟩ ?_
  rintro J2 ⟨j,⟨eb,ea,en,ec,E⟩⟩ F u5 m5 O ⟨hj,rfl,hE,ab,U⟩;simp only at hj hE ab U F;by_cases d:j<A[k].length
  ·refine G.lT j (A[k].length:Int) ?_;have K:A[k][j]?=some A[k][j]:=As5 d;have T:=Ath d;have V:=hT _ f _ T;obtain⟨b6,o6,e6,rfl,h6,f6⟩:=(k4.mono O).lp.at K;obtain⟨x1,x2,x3,x4,x5,x6,x7,x8,rfl⟩:=f6.opn;refine G.a b6 o6 A[k].length Z j 4 d<|G.lU (some 4) b6 (o6+j*4) _ h6<|G.c call176 (Acb f6) ?_;intro v7 u7 l7 k7;obtain⟨b7,a7,n7,c7,rfl⟩:=k7.opn;refine G.c call175 (Aos ((hE.mono l7).1) k7 (As9 (a9 _ hE.2.2) oV) (As9 (Bi V.den) oV) (by have:=hE.2.1;dsimp only at this⊢;omega)) ?_;intro v8 u8 l8 k8;rw[Ard]at k8;obtain⟨b8,a8,n8,c8,rfl⟩:=k8.opn;refine G.add (j:Int) 1 ((j+1:Nat):Int) kV oV oV (by have:=ac _ f;omega)<|G.b (F (j+1,⟨b8,a8,n8,c8,Nat.lcm E A[k][j].den⟩) _ _ _ cV ((O.trans l7).trans l8) ⟨dV,rfl,⟨k8,?_,?_⟩,?_,?_⟩ dV)
   ·have:=hE.2.1;simp only at this⊢;exact Nat.lcm_pos this (A[k][j]).den_pos
   ·exact Nat.lcm_dvd hE.2.2 (hL _ f _ T)
   ·exact fun r C q t=>Nat.dvd_trans (ab r C q t) (Nat.dvd_lcm_left _ _)
   intro q t;dsimp only at t⊢;rw[At0,K]at t;rcases Ati.1 t with t|t
   ·exact Nat.dvd_trans (U q t) (Nat.dvd_lcm_left _ _)
   simp at t;subst t;exact Nat.dvd_lcm_right _ _
  have:j=A[k].length:=oV;subst this;rw[At9]at U;refine G.lF (A[k].length:Int) (A[k].length:Int)<|G.B 123 1 24 (.slice none 0 0) [.slice a4 A[k].length Z] (G5 _ _ _) ?_;intro g6 u6 l6 e6;refine G.append 123 1 24 (.slice none 0 0) PH.mt Ir [.slice a4 A[k].length Z] (.slice a2 n2 c2) g6 0 1 1 kV rfl rfl oV hA e6 (G5 _ _ _) rfl oV oV oV ?_;intro v7 m7 al;obtain⟨a7,c7,rfl⟩:=al.shape;refine G.i k<|G.b (hJ (k+1,Ir++[Value.slice a4 A[k].length Z],(a7,(Ir++[Value.slice a4 A[k].length Z]).length,c7),⟨eb,ea,en,ec,E⟩) _ _ _ cV (((l2.trans l4).trans O).trans l6) ⟨dV,?_,al,hE.mono l6,?_⟩ dV)
  ·dsimp only;rw[At0,m];exact (hF.mono (fun _ _ h=>h.mono ((l4.trans O).trans l6))).snoc (k4.mono (O.trans l6))
  intro r C;dsimp only at C⊢;rw[At0,m]at C;rcases Ati.1 C with C|C
  ·exact ab r C
  simp at C;subst C;exact U
 have:k=A.length:=oV;subst this;rw[At9]at hF Q;refine G.lF A.length A.length<|G.give PH.mt Ir _ kV hA (fun _=>.inl rfl) ?_;intro u3 l3 aa;have bi:Ir.length=A.length:=by rw[hF.1]
 obtain⟨_,_,e0⟩:=aa.opn;simp only[Value.slice.injEq]at e0;obtain⟨rfl,rfl,rfl⟩:=e0;rw[bi]at aa⊢;have b5:Ul u3 (.slice a2 A.length c2) A:=⟨Ir,aa,hF.mono (fun _ _ h=>h.mono l3)⟩;refine G.l (ι:=Nat×List Value×(Option Addr×Nat×Nat))
  (fun i=>[(2,.p 0 0),(3,.p 1002 0),(45,sV a2 A.length c2),(46,iV A.length),(47,iV i.1)])
  (fun i=>[(0,⟨195,[bV false,sV none 0 0,sV none 0 0]⟩),(1002,⟨195,[bV db,sV da dn dc,sV i.2.2.1 i.2.2.2.1 i.2.2.2.2]⟩)])
  (fun i u' m'=>i.1<=A.length/\AtP T7 u' i.2.1 ((A.take i.1).map (G1 D))/\Ae PH.mt m' (.slice i.2.2.1 i.2.2.2.1 i.2.2.2.2) 246 1 i.2.1)
  (fun i=>A.length-i.1) (0,[],(none,0,0))
  ⟨Atu _,AtP.nil,Ae.nil _ _ _⟩ ?_
 rintro J2 ⟨k,cv,⟨a5,n5,c5⟩⟩ F u5 m5 O ⟨bh,hN,a6⟩;simp only at bh hN a6 F;have ap:=hN.1;rw[Ata,Atm]at ap;by_cases I:k<A.length
 ·refine G.lT k A.length ?_;have m:A[k]?=some A[k]:=As5 I;have f:=Ath I;have ca:=ac _ f;obtain⟨b6,o6,e6,rfl,h6,f6⟩:=LP.at (b5.mono O) m;obtain⟨a7,c7,rfl⟩:=f6.lp.opn;refine G.a b6 o6 A.length c2 k 1 oV<|G.lU none b6 (o6+k*1) _ h6<|G.make 101 2 32 (.agg #[.bool false,.slice none 0 0]) A[k].length kV rfl rfl oV oV oV ?_;rintro v8 m8 am ⟨a8,rfl⟩;obtain⟨W,rfl,c0⟩:=am.some';refine G.l (ι:=Nat×List Value)
   (fun i=>[(2,.p 0 0),(3,.p 1002 0),(45,sV (some ⟨b6,o6,none⟩) A.length c2),(46,iV A.length),(47,iV k),(12,sV (some ⟨W,0,none⟩) A[k].length A[k].length),(54,sV a7 A[k].length c7),(55,iV (A[k].length)),(56,iV i.1)])
   (fun i=>[(0,⟨195,[bV false,sV none 0 0,sV none 0 0]⟩),(1002,⟨195,[bV db,sV da dn dc,sV a5 n5 c5]⟩)])
   (fun i u' m'=>i.1<=A[k].length/\AtP Bx u' i.2 (G1 D (A[k].take i.1))/\Ae m5 m' (.slice (some ⟨W,0,none⟩) A[k].length A[k].length) 101 2 (i.2++List.replicate (A[k].length-i.1) (.agg #[.bool false,.slice none 0 0])))
   (fun i=>A[k].length-i.1) (0,[])
   ⟨Atu _,AtP.nil,by simpa using am⟩ ?_
  rintro J3 ⟨j,done⟩ an u9 m9 l9 ⟨bg,H,P⟩;simp only at bg H P an;have aq:=H.1;rw[G1,Ata,Atm]at aq;by_cases d:j<A[k].length
  ·refine G.lT j (A[k].length:Int) ?_;have K:A[k][j]?=some A[k][j]:=As5 d;have T:=Ath d;have V:=hT _ f _ T;have c6:=(A[k][j]).den_pos;obtain⟨ai,ay,bz,rfl,b4,a0⟩:=(f6.mono l9).lp.at K;obtain⟨x1,x2,x3,x4,x5,x6,x7,x8,rfl⟩:=a0.opn;refine G.a ai ay A[k].length c7 j 4 d<|G.lU (some 4) ai (ay+j*4) _ b4<|G.c call176 (Acb a0) ?_;intro cn bk g ar;obtain⟨bq,bm,ce,bu,rfl⟩:=ar.opn;refine G.c call162 (Rt ((N.mono (((l3.trans O).trans l9).trans g)).1) ar (As9 (a9 _ N.2.2) oV) (As9 (Bi V.den) oV) oV) ?_;rintro bl ck af ⟨co,cp,rfl,ad,bj⟩;obtain⟨br,bn,cg,bv,rfl⟩:=ad.opn;obtain⟨bs,bo,ch,bw,rfl⟩:=bj.opn;refine G.c call177 (Alh (a0.mono (g.trans af))) ?_;intro cq cl ag au;obtain⟨bt,bp,ci,bx,rfl⟩:=au.opn;have be:((D:Int)/(A[k][j].den:Int))=((D/A[k][j].den:Nat):Int):=by push_cast;rfl
   rw[be]at ad;refine G.c call100 (E6 au (ad.mono ag) (As9 (Bi V.1) oV) (by rw[Atv];exact As9 (We _ _) (As9 (a9 _ N.2.2) oV))) ?_;intro cr cm aw av;obtain⟨aj,ah,ax,ak,rfl⟩:=av.opn;refine G.a W 0 A[k].length A[k].length j 2 d<|G.storeA 2 m5 _ W A[k].length A[k].length j (.agg #[.bool aj,.slice ah ax ak]) kV P gV rfl rfl ?_;intro cd Y;rw[Al7 oV d]at Y;refine G.i j<|G.b (an (j+1,done++[.agg #[.bool aj,.slice ah ax ak]]) _ _ _ cV ((((l9.trans g).trans af).trans ag).trans aw) ⟨dV,?_,Y⟩ dV);dsimp only;rw[At0,K,G1,Atk];exact (H.mono (fun _ _ h=>h.mono (((g.trans af).trans ag).trans aw))).snoc av
  have:j=A[k].length:=oV;subst this;rw[At9]at H;rw[Avc,Av3,Auu]at P;refine G.lF (A[k].length:Int) (A[k].length:Int)<|G.give m5 done _ kV P (fun _=>.inl rfl) ?_;intro cj ae ao;refine G.B 246 1 24 (.slice none 0 0) [.slice (some ⟨W,0,none⟩) A[k].length A[k].length] (G5 _ _ _) ?_;intro b3 bk g b2;refine G.append 246 1 24 (.slice none 0 0) PH.mt cv [.slice (some ⟨W,0,none⟩) A[k].length A[k].length] (.slice a5 n5 c5) b3 0 1 1 kV rfl rfl oV a6 b2 (G5 _ _ _) rfl oV oV oV ?_;intro bl cc X;obtain⟨az,b0,rfl⟩:=X.shape;refine G.i k<|G.b (F (k+1,cv++[.slice (some ⟨W,0,none⟩) A[k].length A[k].length],(az,(cv++[Value.slice (some ⟨W,0,none⟩) A[k].length A[k].length]).length,b0)) _ _ _ cV (((O.trans l9).trans ae).trans g) ⟨dV,?_,X⟩ dV);dsimp only;rw[At0,m,Atk];exact (hN.mono (fun _ _ h=>h.mono ((l9.trans ae).trans g))).snoc (x:=G1 D A[k]) ⟨done,ao.mono g,H.mono (fun _ _ h=>h.mono (ae.trans g))⟩
 have:k=A.length:=oV;subst this;rw[At9]at hN;refine G.lF A.length A.length<|G.give PH.mt cv _ kV a6 (fun _=>.inl rfl) ?_;intro u6 l6 bb;exact G.r (.agg #[.bool db,.slice da dn dc,.slice a5 n5 c5]) ⟨rfl,D,N.2.1,N.2.2,Q,db,da,dn,dc,a5,n5,c5,rfl,(N.mono ((l3.trans O).trans l6)).1,cv,bb,hN.mono (fun _ _ h=>h.mono l6)⟩
end
section
variable {u:PH}{v:Value}
def Wm.opn {u:PH}{v:Value}{cs:List (List Int)}(h:Wm u v cs):∃ a c,v=.slice a cs.length c:=LP.opn h
def T7.opn {u:PH}{v:Value}{cs:List Int}(h:T7 u v cs):∃ a c,v=.slice a cs.length c:=LP.opn h
theorem An9 {D K:Nat}{cs:List (List Int)}(ht:D1 u)(h:Aqi u v D cs)(hK:K<=400)(hD:Lib.nDigits D<=K)(hc:∀ r∈cs,∀ z∈r,Lib.nDigits z.natAbs<=K)(hl:cs.length<=1000000)(hl2:∀ r∈cs,r.length<=1000000) :
 Fn0 prog 115 [v] u fun v' _=>∃ n:Nat,v'=.int .i64 (n:Int)/\n<=K:=by
 obtain⟨b,a,n,c,a',n',c',rfl,h1,h2⟩:=h;obtain⟨a'',c'',e⟩:=h2.opn;simp only[Value.slice.injEq]at e;obtain⟨rfl,rfl,rfl⟩:=e;refine Fn0.o func115 ?_;refine G.c call103 (Kr ht h1 (by rw[Atv];exact As9 (Bi oV) oV)) ?_;rintro v1 u1 l1 rfl;rw[Atv];refine G.l (ι:=Nat×Nat) (fun i=>[(1,.p 0 0),(3,iV i.2),(12,sV a' cs.length c'),(13,iV cs.length),(14,iV i.1)])
  (fun i=>[(0,⟨195,[bV b,sV a n c,sV a' cs.length c']⟩)])
  (fun i u' m'=>i.1<=cs.length/\i.2<=K/\m'=PH.mt) (fun i=>cs.length-i.1) (0,Lib.nDigits D) ⟨Atu _,hD,rfl⟩ ?_
 rintro J ⟨i,k⟩ hJ u2 m2 l2 ⟨hi,hk,rfl⟩;simp only at hi hk hJ;by_cases hlt:i<cs.length
 ·refine G.lT (i:Int) (cs.length:Int) ?_;have hti:cs[i]?=some cs[i]:=As5 hlt;have hmem:=Ath hlt;obtain⟨b3,o3,e3,rfl,h3,f3⟩:=LP.at (h2.mono (l1.trans l2)) hti;obtain⟨a4,c4,rfl⟩:=f3.opn;refine G.a b3 o3 cs.length c' i 1 hlt ?_;refine G.lU none b3 (o3+i*1) _ h3 ?_;refine G.l (ι:=Nat×Nat) (fun j=>[(1,.p 0 0),(3,iV j.2),(12,sV (some ⟨b3,o3,none⟩) cs.length c'),(13,iV cs.length),(14,iV i),(18,sV a4 cs[i].length c4),(19,iV (cs[i].length)),(20,iV j.1)])
   (fun j=>[(0,⟨195,[bV b,sV a n c,sV (some ⟨b3,o3,none⟩) cs.length c']⟩)])
   (fun j u' m'=>j.1<=cs[i].length/\j.2<=K/\m'=PH.mt) (fun j=>cs[i].length-j.1) (0,k) ⟨Atu _,hk,rfl⟩ ?_
  rintro J2 ⟨j,k2⟩ hJ2 u5 m5 l5 ⟨hj,hk2,rfl⟩;simp only at hj hk2 hJ2;have hrl:=hl2 _ hmem;by_cases hlt2:j<cs[i].length
  ·refine G.lT (j:Int) (cs[i].length:Int) ?_;have htj:cs[i][j]?=some cs[i][j]:=As5 hlt2;have hzm:=hc _ hmem _ (Ath hlt2);obtain⟨b6,o6,e6,rfl,h6,f6⟩:=LP.at (f3.mono l5) htj;obtain⟨b7,a7,n7,c7,rfl⟩:=f6.opn;refine G.a b6 o6 cs[i].length c4 j 2 hlt2 ?_;refine G.lU (some 2) b6 (o6+j*2) _ h6 ?_;refine G.c call103 (Kr (ht.mono ((l1.trans l2).trans l5)) f6 (As9 (Bi oV) oV)) ?_;rintro v8 u8 l8 rfl;generalize Lib.nDigits (cs[i][j]).natAbs=d at *
   refine G.maxI [3,3] (k2:Int) (d:Int) ((max k2 d:Nat):Int) kV oV ?_;refine G.i j ?_;exact G.b (hJ2 (j+1,max k2 d) _ _ _ cV (l5.trans l8) ⟨dV,dV,rfl⟩ dV)
  ·refine G.lF (j:Int) (cs[i].length:Int) ?_;refine G.i i ?_;exact G.b (hJ (i+1,k2) _ _ _ cV (l2.trans l5) ⟨dV,hk2,rfl⟩ dV)
 ·refine G.lF (i:Int) (cs.length:Int) ?_;exact G.r (.int .i64 (k:Int)) ⟨rfl,k,rfl,hk⟩
def Alg {u:PH}{v:Value}{A:List (List Rat)}{L K N:Nat}(ht:D1 u)(h:Bw u v (Bq A))(hT:∀ r∈A,∀ q∈r,Tx q)(hl:A.length<=N)(F:∀ r∈A,r.length<=N)(hN:N<=12)(Q:N*K<=600)(hK:K<=400)
 (hL:∀ r∈A,∀ q∈r,q.den ∣ L) (O:0<L) (P:nl L<=1000000000) (Y:∀ D:Nat,D ∣ L->0<D->Lib.nDigits D<=K/\∀ r∈A,∀ q∈r,q.den ∣ D->Lib.nDigits (q.num*((D/q.den:Nat):Int)).natAbs<=K) :
 Fn0 prog 49 [v] u fun v' _=>v'=.bool false:=by
 have H:=fun (v:Value) (J:PH) (hv:Bw J v (Bq A))=>Apd hv hT oV (fun r I=>by have:=F r I;omega) hL O P;obtain⟨a,c,rfl⟩:=h.opn;rw[Ba]at h⊢;have j:=fun (J:PH) (x:Value) (D:Nat) (R:D1 J) (hx:Aqi J x D (A.map (G1 D))) (X:D ∣ L) (h0:0<D) (h2:∀ r∈A,∀ q∈r,q.den ∣ D) =>
  An9 (K:=K) R hx hK (Y D X h0).1 (fun r I z hz=>by
   obtain⟨f,g,rfl⟩:=Ate.1 I;obtain⟨q,hq,rfl⟩:=Ate.1 hz;exact (Y D X h0).2 f g q hq (h2 f g q hq)) (by rw[Ata];omega) (fun r I=>by
   obtain⟨f,g,rfl⟩:=Ate.1 I;rw[G1,Ata];have:=F f g;omega)
 refine Fn0.o func49 ?_;by_cases m:0<A.length
 ·refine G.gT A.length 0 ?_;have T:A[0]?=some A[0]:=As5 m;have a0:=F _ (Ath m);obtain⟨V,oa,a',c',rfl,W,es⟩:=h.row (Es T);rw[Ata]at W;generalize A[0].length=f at *
  refine G.a V oa A.length c 0 1 oV<|G.lU none V (oa+0*1) (.slice a' f c') W<|G.maxI [3,3] (A.length:Int) (f:Int) ((max A.length f:Nat):Int) kV oV<|G.c call114 (H _ _ h) ?_;rintro v1 u1 U ⟨D,t,C,E,d⟩;have e:=d;obtain⟨x1,x2,x3,x4,x5,x6,x7,rfl,_,_⟩:=d;refine G.c call115 (j _ _ D (ht.mono U) e C t E) ?_;rintro v2 u2 l2 ⟨n,rfl,Z⟩;have hm:max A.length f*n<=600:=As9 (Aut (by omega:max A.length f<=N) Z) Q;exact G.mul ((max A.length f:Nat):Int) (n:Int) ((max A.length f*n:Nat):Int) kV (by push_cast;rfl) oV oV<|G.gF (max A.length f*n:Nat) 600<|G.r (.bool false) ⟨rfl,rfl⟩
 refine G.gF A.length 0<|G.c call114 (H _ _ h) ?_;rintro v1 u1 U ⟨D,t,C,E,d⟩;have e:=d;obtain⟨x1,x2,x3,x4,x5,x6,x7,rfl,_,_⟩:=d;refine G.c call115 (j _ _ D (ht.mono U) e C t E) ?_;rintro v2 u2 l2 ⟨n,rfl,Z⟩;have h0:A.length=0:=oV;exact G.mul (A.length:Int) (n:Int) 0 kV (by rw[h0];simp) oV oV<|G.gF 0 600<|G.r (.bool false) ⟨rfl,rfl⟩
structure So (A:List (List Rat))(L K:Nat):Prop where
 den:∀ r∈A,∀ q∈r,q.den ∣ L
 pos:0<L
 nl:nl L<=1000000000
 dig:∀ D:Nat,D ∣ L->0<D->Lib.nDigits D<=K/\∀ r∈A,∀ q∈r,q.den ∣ D->Lib.nDigits (q.num*((D/q.den:Nat):Int)).natAbs<=K
def Aq3 {A:List (List Rat)}{L K:Nat}(m:D1 u)(h:Bw u v (Bq A))(hT:∀ r∈A,∀ q∈r,Tx q)(j:A.length<=6)(e:∀ r∈A,r.length<=6)(f:6*K<=600)(d:So A L K) :
 Fn0 prog 48 [v] u fun t _=>t=.bool false:=by
 have g:=fun (v:Value) (n:Bw u v (Bq A))=>Alg (N:=6) m n hT j e oV f oV d.den d.pos d.nl d.dig;obtain⟨a,c,rfl⟩:=h.opn;rw[Ba]at h⊢;refine Fn0.o func48<|G.gF A.length 6<|G.c call49 (g _ h) ?_;rintro D C z rfl;exact G.r (.bool false) ⟨rfl,rfl⟩
end
section
variable [Ca] [Df] [Pu]
structure Arr where
 v:Value
 t:TypeId
 sz:Nat
 es:List Value
def Arr.At (a:Arr)(m0 m:PH):Prop:=Ae m0 m a.v a.t a.sz a.es
def Bag:PH->List Arr->Prop
 |_,[]=>True
 |m,a::l=>∃ m0,a.At m0 m/\Bag m0 l
def Jb (m:PH){g h:Nat}(o p:Obj)(f:g≠h):(m.upd g o).upd h p=(m.upd h p).upd g o:=by
 funext k
 unfold PH.upd;by_cases d:k=g
 ·subst d;simp[f]
 by_cases e:k=h
 ·subst e;simp[d]
 simp[d,e]
def At.swap {x y:Arr}{m0 W m:PH}(N:y.At W m)(L:x.At m0 W):∃ O,y.At m0 O/\x.At O m/\∀ (K:Arr) E,K.At O E->∃ J,y.At J E/\K.At m0 J:=by
 obtain⟨A,N⟩:=N;rcases N with ⟨y1,y2,rfl⟩|⟨h,cap,rest,y1,rfl,y2,y3,y4,F⟩
 ·exact⟨m0,⟨A,.inl ⟨y1,y2,rfl⟩⟩,L,fun K E d=>⟨E,⟨A,.inl ⟨y1,y2,rfl⟩⟩,d⟩⟩
 obtain⟨X,L⟩:=L;rcases L with ⟨Q,R,rfl⟩|⟨g,H,C,Q,rfl,R,Y,Z,x5⟩
 ·refine⟨_,⟨A,.inr ⟨h,cap,rest,y1,rfl,y2,y3,y4,F⟩⟩,⟨X,.inl ⟨Q,R,rfl⟩⟩,fun K E d=>?_⟩;obtain⟨z,d⟩:=d;rcases d with ⟨t,D,rfl⟩|⟨I,j,f,t,rfl,D,T,U,V⟩
  ·exact⟨_,⟨A,.inr ⟨h,cap,rest,y1,rfl,y2,y3,y4,F⟩⟩,⟨z,.inl ⟨t,D,rfl⟩⟩⟩
  have n:I≠h:=fun e=>by subst e;rw[Ab]at t;cases t
  rw[Ac _ _ n]at t;refine⟨_,⟨A,.inr ⟨h,cap,rest,?_,Jb _ _ _ n.symm,y2,y3,y4,F⟩⟩,⟨z,.inr ⟨I,j,f,t,rfl,D,T,U,V⟩⟩⟩;rw[Ac _ _ n.symm];exact y1
 have n:h≠g:=fun e=>by subst e;rw[Ab]at y1;cases y1
 rw[Ac _ _ n]at y1;refine⟨_,⟨A,.inr ⟨h,cap,rest,y1,rfl,y2,y3,y4,F⟩⟩,⟨X,.inr ⟨g,H,C,?_,Jb _ _ _ n.symm,R,Y,Z,x5⟩⟩,fun K E d=>?_⟩
 ·rw[Ac _ _ n.symm];exact Q
 obtain⟨z,d⟩:=d;rcases d with ⟨t,D,rfl⟩|⟨I,j,f,t,rfl,D,T,U,V⟩
 ·exact⟨_,⟨A,.inr ⟨h,cap,rest,y1,rfl,y2,y3,y4,F⟩⟩,⟨z,.inl ⟨t,D,rfl⟩⟩⟩
 have v:I≠h:=fun e=>by subst e;rw[Ab]at t;cases t
 rw[Ac _ _ v]at t;refine⟨_,⟨A,.inr ⟨h,cap,rest,?_,Jb _ _ _ v.symm,y2,y3,y4,F⟩⟩,⟨z,.inr ⟨I,j,f,t,rfl,D,T,U,V⟩⟩⟩;rw[Ac _ _ v.symm];exact y1
def Bag.focus:∀ {l:List Arr} {m:PH} (_:Bag m l) (i:Nat) {x:Arr},l[i]?=some x->∃ m0,x.At m0 m/\∀ (e:Arr) g,e.At m0 g->Bag g (l.set i e)
 |[],m,_,i,x,hi=>by simp at hi
 |y::l,m,⟨m1,hy,hl⟩,0,x,hi=>by
  simp at hi;subst hi;exact⟨m1,hy,fun e g d=>⟨m1,d,hl⟩⟩
 |y::l,m,⟨m1,hy,hl⟩,i+1,x,hi=>by
  simp at hi;obtain⟨m0,t,f⟩:=Bag.focus hl i hi;obtain⟨C,v,j,n⟩:=At.swap hy t;refine⟨C,j,fun e g d=>?_⟩;obtain⟨h,z,A⟩:=n e g d;exact⟨h,z,f e h A⟩
def Bag.take:∀ {l:List Arr} {m:PH} (_:Bag m l) (i:Nat) {x:Arr},l[i]?=some x->∃ m0,x.At m0 m/\Bag m0 (l.eraseIdx i)
 |[],m,_,i,x,hi=>by simp at hi
 |y::l,m,⟨m1,hy,hl⟩,0,x,hi=>by
  simp at hi;subst hi;exact⟨m1,hy,hl⟩
 |y::l,m,⟨m1,hy,hl⟩,i+1,x,hi=>by
  simp at hi;obtain⟨m0,g,d⟩:=Bag.take hl i hi;obtain⟨h,f,e,j⟩:=At.swap hy g;exact⟨h,e,m0,f,d⟩
def Bag.add {l:List Arr}{m d:PH}(h:Bag m l){x:Arr}(e:x.At m d):Bag d (x::l):=⟨m,e,h⟩
def Bag.el {l:List Arr}{m:PH}(h:Bag m l)(i:Nat){x:Arr}(hi:l[i]?=some x){b n c j:Nat}{e:Value}(g:x.v=.slice (some ⟨b,0,none⟩) n c)(f:x.es[j]?=some e):ElP m b (0+j*x.sz) e:=by
 obtain⟨m0,d,_⟩:=h.focus i hi;unfold Arr.At at d;rw[g]at d;exact d.el f
def Bag.shape {l:List Arr}{m:PH}(h:Bag m l)(i:Nat){x:Arr}(hi:l[i]?=some x):∃ a c,x.v=.slice a x.es.length c:=by
 obtain⟨m0,d,_⟩:=h.focus i hi;exact d.shape
def Bag.ptr {l:List Arr}{m:PH}(h:Bag m l)(i:Nat){x:Arr}(hi:l[i]?=some x)(d:x.es≠[]):∃ b c,x.v=.slice (some ⟨b,0,none⟩) x.es.length c:=by
 obtain⟨m0,e,_⟩:=h.focus i hi;exact e.ptr d
def Ae.join {m mc:PH}{v:Value}{t:TypeId}{sz:Nat}{es:List Value}(h:Ae PH.mt mc v t sz es)(E:∀ g,mc g≠none->m g=none):Ae m (m.or mc) v t sz es:=by
 obtain⟨z,h⟩:=h;rcases h with ⟨j,d,rfl⟩|⟨g,cap,rest,j,rfl,d,A,C,D⟩
 ·refine⟨z,.inl ⟨j,d,?_⟩⟩
  funext k;unfold PH.or;split
  ·rename_i o e;rw[e]
  rename_i e;rw[e];rfl
 have n:m g=none:=E g (by rw[Ab];simp);refine⟨z,.inr ⟨g,cap,rest,n,?_,d,A,C,D⟩⟩
 funext k
 by_cases f:k=g
 ·subst f;rw[Ab,PH.or_r n,Ab]
 rw[Ac _ _ f];unfold PH.or;split
 ·rename_i o e;rw[e]
 rename_i e;rw[e,Ac _ _ f];rfl
section rules
variable {P:Program} [A7 P] {fn:Func} {Post:Bz} {st:List KI×S} {u m:PH}
def G.callO (f:Nat)(args:List Value){R:Value->PH->PH->Prop}(h:Al P (adv P st)=.call f args)(U:∀ args w,(callFunc f args).run P w=.ok (.enter f args) w)(c:Aj P f args u PH.mt R)
 (k:∀ v d mc,PH.le u d->R v d mc->(∀ g,mc g≠none->m g=none)->G P fn Post (nx (adv P st) v) d (m.or mc)):G P fn Post st u m:=by
 refine G.big (K:=fun v d E=>∃ mc,E=m.or mc/\R v d mc/\∀ g,mc g≠none->m g=none) h mV En (.inl fun v d E Q=>?_) (fun L o n w j=>?_) (fun v d E N O=>?_)
 ·obtain⟨mc,rfl,_⟩:=Q;exact fun g o A=>PH.or_l A
 ·refine J9 n U w _ (Calls.mono (c w j.noM) fun e w' V=>?_);obtain⟨v,d,mc,H,I,F,J⟩:=V;have t:m.or PH.mt=m:=by
   funext g;unfold PH.or;split
   ·rename_i o e;rw[e]
   rename_i e;rw[e];rfl
  have z:∀ g,mc g≠none->m g=none:=fun g A=>by
   rcases At8 g w.heap.size with D|C
   ·exact absurd (F.ms g D rfl) A
   exact j.pm.none C
  obtain⟨g1,g2⟩:=B1.frameM (mf:=m) (mc:=PH.mt) (by rw[t];exact j) (fun _=>.inr rfl) I F;rw[t]at g2;exact⟨v,H,d,m.or mc,g1,g2,mc,rfl,J,z⟩
 obtain⟨mc,rfl,T,W⟩:=O;exact k v d mc N T W
def Wu {d:Operand->Value}{o:Op}{ts:List TypeId}{xs:List Value}(h:A8 P d o=.blt .copy ts xs):Lj o=true/\Ek o=false:=by
 obtain⟨c,rfl,e,_⟩:=Pb h;obtain⟨f,a,t⟩:=c;simp only at e;subst e;exact⟨rfl,rfl⟩
def G.copyM (Q Z e:TypeId)(sz g o n c:Nat)(a:Addr)(I sc:Nat)(t:TypeId)(d cs:List Value)(h:Al P (adv P st)=.blt .copy [Q,Z] [.slice (some ⟨g,o,none⟩) n c,.slice (some a) I sc])
 (hu:P.underlying Q=some (.slice e)) (W:szB P e=some sz) (hb:m g=some (.cells d.toArray t (0,0))) (V:cs.length=Nat.min I n*sz)
 (N:∀ w,Em u w->Em m w->∀ (j:Nat) (v:Value),cs[j]?=some v->w.cell? (a.add j)=some v) (J:o+cs.length<=d.length) (h1:∀ x∈cs,Bh x=true) (h2:∀ x∈d,Bh x=true)
 (k:G P fn Post (nx (adv P st) (.int .i64 (Nat.min I n:Nat))) u (m.upd g (.cells (d.take o++cs++d.drop (o+cs.length)).toArray t (0,0)))):G P fn Post st u m:=by
 refine G.big (K:=fun v' u' m'=>u'=u/\v'=.int .i64 (Nat.min I n:Nat)/\m'=m.upd g (.cells (d.take o++cs++d.drop (o+cs.length)).toArray t (0,0))) h mV (fun D Y X=>(Wu X).2) (.inr fun D Y X=>(Wu X).1) (fun D Y H w z=>?_) (fun v' u' m' _ V=>?_)
 ·obtain⟨cc,e1,e2,e3,e4⟩:=Pb H;obtain⟨R,a1,A,pos,C,E⟩:=Y;obtain⟨a0,ar,ty⟩:=cc;simp only at e1 e2 e3 e4;subst e1 e2 e3;have U:=z.pm g _ hb;have hl:=run_loadCells_list (P:=P) w a cs (N w z.pu z.pm);have O:=run_storeCells_at P g o t cs 0 d.toArray w U (by simpa using J) (fun x f=>Ic (h1 x f));have L:(Builtin.copy_ #[Q,Z] A #[.slice (some ⟨g,o,none⟩) n c,.slice (some a) I sc]).run P w=.ok (.int .i64 (Nat.min I n:Nat)) (w.setRow g (d.take o++cs++d.drop (o+cs.length)).toArray):=by
   simp only[Avb,Av4]at O;simp[Builtin.copy_,run_underlying hu,Builtin.lenOf,Builtin.firstCells,Be W,<-V,hl];rw[O];simp[goInt]
  have F:∀ x∈(d.take o++cs++d.drop (o+cs.length)).toArray.toList,Bh x=true:=by
   intro x f;simp only[Av4,Ati]at f;rcases f with (f|f)|f
   ·exact h2 x (Avd f)
   ·exact h1 x f
   exact h2 x (Avz f)
  obtain⟨g1,g2⟩:=z.setM hb F;unfold E2;have T:(execOp D ⟨R,.call ⟨.builtin .copy,ar,#[Q,Z]⟩,A,pos,C,E⟩).run P w=.ok (.value (.int .i64 (Nat.min I n:Nat))) (w.setRow g (d.take o++cs++d.drop (o+cs.length)).toArray):=by
   simp[execOp,resolve,invoke,builtin,e4,L]
  rw[T];exact⟨u,_,g1,g2,rfl,rfl,rfl⟩
 obtain⟨rfl,rfl,rfl⟩:=V;exact k
end rules
end
section
variable {e v z:Value}{es:List Value}{k n q sz:Nat}
def Ah0 (h:Ax sz es)(k:Nat):(Av es).take (k*sz)=Av (es.take k):=by
 by_cases g:k<=es.length
 ·have e:Av es=Av (es.take k)++Av (es.drop k):=by rw[<-C1,Awg]
  have d:(Av (es.take k)).length=k*sz:=by rw[A4 (sz:=sz) (fun x f=>h x (Avd f)),Atm];congr 1;omega
  rw[e,Ayn oV,<-d,At9]
 rw[Atp (by rw[A4 h];exact Ats _ oV),Atp oV]
def Ag9 (h:Ax sz es)(k:Nat):(Av es).drop (k*sz)=Av (es.drop k):=by
 by_cases g:k<=es.length
 ·have e:Av es=Av (es.take k)++Av (es.drop k):=by rw[<-C1,Awg]
  have d:(Av (es.take k)).length=k*sz:=by rw[A4 (sz:=sz) (fun x f=>h x (Avd f)),Atm];congr 1;omega
  rw[e,<-d,A0f]
 rw[Aue (by rw[A4 h];exact Ats _ oV),Aue oV];rfl
def Ax.replicate (h:Ax sz [e])(n:Nat):Ax sz (List.replicate n e):=fun x d=>h x (by rw[Av2 d];simp)
section rules
variable {P:Program} [A7 P] {fn:Func} {Post:Bz} {st:List KI×S} {u m:PH}
def G.copyA (I T e:TypeId)(sz g n k:Nat)(a:Addr)(C U c:Nat)(t:TypeId)(m0:PH)(es xs:List Value)(h:Al P (adv P st)=.blt .copy [I,T] [.slice (some ⟨g,0+k*sz,none⟩) (n-k) c,.slice (some a) C U])
 (Y:P.underlying I=some (.slice e)) (K:szB P e=some sz) (N:Ae m0 m (.slice (some ⟨g,0,none⟩) n n) t sz es) (H:Ax sz xs) (E:xs.length=Nat.min C (n-k)) (W:k<=n)
 (F:∀ w,Em u w->Em m w->∀ (j:Nat) (v:Value),(Av xs)[j]?=some v->w.cell? (a.add j)=some v)
 (Z:∀ R,Ae m0 R (.slice (some ⟨g,0,none⟩) n n) t sz (es.take k++xs++es.drop (k+xs.length))->G P fn Post (nx (adv P st) (.int .i64 ((Nat.min C (n-k):Nat):Int))) u R):G P fn Post st u m:=by
 have O:=N.len;obtain⟨d,V⟩:=N;rcases V with ⟨J,_,_⟩|⟨g',cap,rest,J,rfl,D,h3,L,h5⟩
 ·simp at J
 simp only[Value.slice.injEq,Atd,Addr.mk.injEq,and_true]at D;obtain⟨rfl,D,rfl⟩:=D;have X:rest = []:=by
  rw[Atg,A4 d,<-D]at L;exact Auo oV
 subst X;simp only[Auu]at L⊢;have Q:Nat.min C (n-k)<=n-k:=Awi _ _;have f:(Av xs).length=Nat.min C (n-k)*sz:=by rw[A4 H,E]
 refine G.copyM I T e sz g (0+k*sz) (n-k) c a C U t (Av es) (Av xs) h Y K (Ab _ _ _) f (by simpa using F) (by rw[f,A4 d,<-D,Aud,<-At2];exact Ats _ oV) (E7 H) (E7 d) ?_;rw[Dz];refine Z _ ⟨?_,.inr ⟨g,n,[],J,?_,?_,?_,?_,mV⟩⟩
 ·exact ((Ax.append (fun x A=>d x (Avd A)) H).append (fun x A=>d x (Avz A)))
 ·congr 3
  rw[Aud,Ah0 d,f,<-At2,Ag9 d,<-C1,<-C1,Auu,E]
 ·congr 1
  simp only[Atg,Atm,Ax4,E];omega
 ·simp only[Atg,Atm,Ax4,E];omega
 rw[Auu,A4 (sz:=sz)]
 ·congr 1
  simp only[Atg,Atm,Ax4,E];omega
 exact ((Ax.append (fun x A=>d x (Avd A)) H).append (fun x A=>d x (Avz A)))
end rules
def Tl {u:PH}(d:n<=1000000):Fn0 prog 116 [.int .u64 1,.int .u64 (n:Int)] u fun v _=>v=.tuple #[.int .u64 0,.int .u64 (n:Int)]:=by
 refine Fn0.ofW (fun v _=>v=.tuple #[.int .u64 0,.int .u64 (n:Int)]) (fun w _=>(Tryz.bits_Mul 1 n oV oV w).mono fun _ _ ⟨e,h⟩=>⟨_,e,?_,by rw[h];exact Ext.refl _⟩) (fun _ _ _ h _ _ _=>h);rw[Avm,Aw1 oV,Axg oV];rfl
def Kf {z:Int}(d:0<=z)(f:z<18446744073709551616):IntKind.u64.wrap z=z:=by
 simp only[IntKind.wrap,IntKind.signed,IntKind.bits];simp;omega
def Kh (d:k+q<=n):(List.replicate k e++List.replicate (n-k) z).take k++List.replicate q e++(List.replicate k e++List.replicate (n-k) z).drop (k+(List.replicate q e).length)=List.replicate (k+q) e++List.replicate (n-(k+q)) z:=by
 rw[List.take_left' mV,Aur,List.drop_append,Aue mV,Aur,Ava,List.drop_replicate,List.replicate_append_replicate]
 congr 2;omega
def Su {g q k r:Nat}{u m m0:PH}{t:TypeId}(D:Ax sz [e])(F:q<=k)(f:0<sz)(A:Ae m0 m (.slice (some ⟨g,0,none⟩) n n) t sz (List.replicate k e++List.replicate r z)) :
 ∀ w,Em u w->Em m w->∀ (j:Nat) (v:Value),(Av (List.replicate q e))[j]?=some v->w.cell? ((⟨g,0,none⟩:Addr).add j)=some v:=by
 intro w _ hp j v C;refine Ex.cells (u:=m) (b:=g) (off:=0) f (fun i x hi=>?_) (D.replicate q) hp j v C;have d:i<q:=by
  rcases At8 i q with h|h
  ·exact h
  rw[Att (by simpa using h)]at hi;cases hi
 have E:x=e:=by rw[Avg,if_pos d]at hi;exact (Auq hi).symm
 subst E;refine A.el ?_;rw[Atl gV,Avg,if_pos oV]
def Ak9 {u:PH}(h:Ad u v 1 [e])(D:Ax 1 [e])(V:n<=1000000) :
 Fn0 prog 51 [v,.int .i64 n] u fun v' L=>Ad L v' 1 (List.replicate n e):=by
 obtain⟨a,c,rfl⟩:=h.opn;have E:=Ad.at' h (j:=0) (e:=e) rfl;obtain⟨b,off,rfl,F⟩:=E;refine Fn0.o func51<|G.lF n 0<|G.convI .i64 .u64 .i64 1 1 kV (Kf oV oV)<|G.convI .i64 .u64 .i64 n (n:Int) kV (Kf oV oV)<|G.c call116 (Tl V) ?_;rintro v1 u1 Z rfl;refine G.cmpG .gtr .u64 0 0 false kV rfl rfl<|G.cmpG .gtr .u64 (n:Int) 9223372036854775807 false kV rfl (by simp only[Cj,decide_eq_false_iff_not];omega)<|G.convI .u64 .i64 .u64 (n:Int) (n:Int) kV (Dm oV oV)<|G.make 34 1 16 (.string (mkS [])) n kV rfl rfl oV oV oV ?_;rintro v2 m2 I ⟨a2,rfl⟩;obtain⟨g,rfl,K⟩:=I.some';have U:Nat.min 1 (n-0)<=1:=Ayj _ _;refine G.copyA 60 60 34 1 g n 0 ⟨b,off,none⟩ 1 c n 34 PH.mt (List.replicate n (.string (mkS []))) (List.replicate (Nat.min 1 (n-0)) e) kV kV kV I (D.replicate _) mV (Atu _) (fun w hp _ j x Q=>?_) ?_
 ·refine Ex.cells (u:=u) (b:=b) (off:=off) (sz:=1) oV (fun i y hi=>?_) (D.replicate _) (fun g o K=>hp g o (Z g o K)) j x Q;have t:i<Nat.min 1 (n-0):=by
   rcases At8 i (Nat.min 1 (n-0)) with h|h
   ·exact h
   rw[Att (by simpa using h)]at hi;cases hi
  rw[Avg,if_pos t]at hi;have Y:y=e:=(Auq hi).symm;subst Y;have:i=0:=oV;subst this;exact F
 intro m3 f;have A:=Kh (e:=e) (z:=.string (mkS [])) (n:=n) (k:=0) (q:=Nat.min 1 (n-0)) (by have:Nat.min 1 (n-0)<=n-0:=Awi _ _;omega);simp only[Av3,Ava,Awx,Aud]at A f;rw[A]at f;clear A;refine G.l (ι:=Nat) (fun k=>[(7,sV (some ⟨g,0,none⟩) n n),(8,iV k)]) (fun _=>[])
  (fun k L m'=>k<=n/\(k=0->n=0)/\Ae PH.mt m' (.slice (some ⟨g,0,none⟩) n n) 34 1 (List.replicate k e++List.replicate (n-k) (.string (mkS [])))) (fun k=>n-k) (Nat.min 1 n)
  ⟨Awi _ _,fun h=>by have h':min 1 n=0:=h;omega,f⟩ ?_
 rintro J k N u4 m4 l4 ⟨R,T,d⟩;by_cases t:k<n
 ·refine G.lT k n<|G.sliceFrom g 0 n n k 1 kV oV t<|G.sliceTo 1 (some ⟨g,0,none⟩) n n k kV oV ?_;have H:Nat.min k (n-k)<=k:=Ayj _ _;have W:Nat.min k (n-k)<=n-k:=Awi _ _;have X:0<Nat.min k (n-k):=by show 0<min k (n-k);omega
  refine G.copyA 60 60 34 1 g n k ⟨g,0,none⟩ k n (n-k) 34 PH.mt _ (List.replicate (Nat.min k (n-k)) e) kV kV kV d (D.replicate _) mV R (Su D H oV d) ?_;intro m5 C;rw[Kh oV]at C;generalize Nat.min k (n-k)=q at *
  exact G.p k q (k+q:Nat)<|G.b (N (k+q) _ _ _ cV l4 ⟨oV,oV,C⟩ oV)
 obtain rfl:k=n:=oV;refine G.lF k k ?_;rw[Avc,Av3,Auu]at d;refine G.give PH.mt _ _ kV d (fun _=>.inl rfl) ?_;intro u5 l5 O;exact G.r (.slice (some ⟨g,0,none⟩) k k) ⟨rfl,O⟩
def Ak8 {u:PH}(h:Ad u v 4 [e])(D:Ax 4 [e])(U:n<=1000000) :
 Aj prog 118 [v,.int .i64 n] u PH.mt fun v' u' I=>Ae PH.mt I v' 103 4 (List.replicate n e):=by
 obtain⟨a,c,rfl⟩:=h.opn;have E:=Ad.at' h (j:=0) (e:=e) rfl;obtain⟨b,off,rfl,F⟩:=E;refine Aj.o func118<|G.lF n 0<|G.convI .i64 .u64 .i64 1 1 kV (Kf oV oV)<|G.convI .i64 .u64 .i64 n (n:Int) kV (Kf oV oV)<|G.c call116 (Tl U) ?_;rintro v1 u1 Y rfl;refine G.cmpG .gtr .u64 0 0 false kV rfl rfl<|G.cmpG .gtr .u64 (n:Int) 9223372036854775807 false kV rfl (by simp only[Cj,decide_eq_false_iff_not];omega)<|G.convI .u64 .i64 .u64 (n:Int) (n:Int) kV (Dm oV oV)<|G.make 103 4 64 (.agg #[.bool false,.slice none 0 0,.bool false,.slice none 0 0]) n kV rfl rfl oV oV oV ?_;rintro v2 m2 K ⟨a2,rfl⟩;obtain⟨g,rfl,L⟩:=K.some';have T:Nat.min 1 (n-0)<=1:=Ayj _ _;refine G.copyA 123 123 103 4 g n 0 ⟨b,off,none⟩ 1 c n 103 PH.mt (List.replicate n (.agg #[.bool false,.slice none 0 0,.bool false,.slice none 0 0])) (List.replicate (Nat.min 1 (n-0)) e) kV kV kV K (D.replicate _) mV (Atu _) (fun w hp _ j x O=>?_) ?_
 ·refine Ex.cells (u:=u) (b:=b) (off:=off) (sz:=4) oV (fun i y hi=>?_) (D.replicate _) (fun g o L=>hp g o (Y g o L)) j x O;have t:i<Nat.min 1 (n-0):=by
   rcases At8 i (Nat.min 1 (n-0)) with h|h
   ·exact h
   rw[Att (by simpa using h)]at hi;cases hi
  rw[Avg,if_pos t]at hi;have X:y=e:=(Auq hi).symm;subst X;have:i=0:=oV;subst this;exact F
 intro m3 f;have A:=Kh (e:=e) (z:=.agg #[.bool false,.slice none 0 0,.bool false,.slice none 0 0]) (n:=n) (k:=0) (q:=Nat.min 1 (n-0)) (by have:Nat.min 1 (n-0)<=n-0:=Awi _ _;omega);simp only[Av3,Ava,Awx,Aud]at A f;rw[A]at f;clear A;refine G.l (ι:=Nat) (fun k=>[(7,sV (some ⟨g,0,none⟩) n n),(8,iV k)]) (fun _=>[])
  (fun k u' I=>k<=n/\(k=0->n=0)/\Ae PH.mt I (.slice (some ⟨g,0,none⟩) n n) 103 4 (List.replicate k e++List.replicate (n-k) (.agg #[.bool false,.slice none 0 0,.bool false,.slice none 0 0]))) (fun k=>n-k) (Nat.min 1 n)
  ⟨Awi _ _,fun h=>by have h':min 1 n=0:=h;omega,f⟩ ?_
 rintro J k N u4 m4 Z ⟨Q,R,d⟩;by_cases t:k<n
 ·refine G.lT k n<|G.sliceFrom g 0 n n k 4 kV oV t<|G.sliceTo 4 (some ⟨g,0,none⟩) n n k kV oV ?_;have H:Nat.min k (n-k)<=k:=Ayj _ _;have V:Nat.min k (n-k)<=n-k:=Awi _ _;have W:0<Nat.min k (n-k):=by show 0<min k (n-k);omega
  refine G.copyA 123 123 103 4 g n k ⟨g,0,none⟩ k n (n-k) 103 PH.mt _ (List.replicate (Nat.min k (n-k)) e) kV kV kV d (D.replicate _) mV Q (Su D H oV d) ?_;intro m5 C;rw[Kh oV]at C;generalize Nat.min k (n-k)=q at *
  exact G.p k q (k+q:Nat)<|G.b (N (k+q) _ _ _ cV Z ⟨oV,oV,C⟩ oV)
 obtain rfl:k=n:=oV;refine G.lF k k ?_;rw[Avc,Av3,Auu]at d;exact G.r (.slice (some ⟨g,0,none⟩) k k) d
def Ajq {u:PH}(h:Ad u v 4 [e])(D:Ax 4 [e])(U:n<=1000000) :
 Aj prog 188 [v,.int .i64 n] u PH.mt fun v' u' I=>Ae PH.mt I v' 103 4 (List.replicate n e):=by
 obtain⟨a,c,rfl⟩:=h.opn;have E:=Ad.at' h (j:=0) (e:=e) rfl;obtain⟨b,off,rfl,F⟩:=E;refine Aj.o func188<|G.lF n 0<|G.convI .i64 .u64 .i64 1 1 kV (Kf oV oV)<|G.convI .i64 .u64 .i64 n (n:Int) kV (Kf oV oV)<|G.c call116 (Tl U) ?_;rintro v1 u1 Y rfl;refine G.cmpG .gtr .u64 0 0 false kV rfl rfl<|G.cmpG .gtr .u64 (n:Int) 9223372036854775807 false kV rfl (by simp only[Cj,decide_eq_false_iff_not];omega)<|G.convI .u64 .i64 .u64 (n:Int) (n:Int) kV (Dm oV oV)<|G.make 103 4 64 (.agg #[.bool false,.slice none 0 0,.bool false,.slice none 0 0]) n kV rfl rfl oV oV oV ?_;rintro v2 m2 K ⟨a2,rfl⟩;obtain⟨g,rfl,L⟩:=K.some';have T:Nat.min 1 (n-0)<=1:=Ayj _ _;refine G.copyA 124 124 103 4 g n 0 ⟨b,off,none⟩ 1 c n 103 PH.mt (List.replicate n (.agg #[.bool false,.slice none 0 0,.bool false,.slice none 0 0])) (List.replicate (Nat.min 1 (n-0)) e) kV kV kV K (D.replicate _) mV (Atu _) (fun w hp _ j x O=>?_) ?_
 ·refine Ex.cells (u:=u) (b:=b) (off:=off) (sz:=4) oV (fun i y hi=>?_) (D.replicate _) (fun g o L=>hp g o (Y g o L)) j x O;have t:i<Nat.min 1 (n-0):=by
   rcases At8 i (Nat.min 1 (n-0)) with h|h
   ·exact h
   rw[Att (by simpa using h)]at hi;cases hi
  rw[Avg,if_pos t]at hi;have X:y=e:=(Auq hi).symm;subst X;have:i=0:=oV;subst this;exact F
 intro m3 f;have A:=Kh (e:=e) (z:=.agg #[.bool false,.slice none 0 0,.bool false,.slice none 0 0]) (n:=n) (k:=0) (q:=Nat.min 1 (n-0)) (by have:Nat.min 1 (n-0)<=n-0:=Awi _ _;omega);simp only[Av3,Ava,Awx,Aud]at A f;rw[A]at f;clear A;refine G.l (ι:=Nat) (fun k=>[(7,sV (some ⟨g,0,none⟩) n n),(8,iV k)]) (fun _=>[])
  (fun k u' I=>k<=n/\(k=0->n=0)/\Ae PH.mt I (.slice (some ⟨g,0,none⟩) n n) 103 4 (List.replicate k e++List.replicate (n-k) (.agg #[.bool false,.slice none 0 0,.bool false,.slice none 0 0]))) (fun k=>n-k) (Nat.min 1 n)
  ⟨Awi _ _,fun h=>by have h':min 1 n=0:=h;omega,f⟩ ?_
 rintro J k N u4 m4 Z ⟨Q,R,d⟩;by_cases t:k<n
 ·refine G.lT k n<|G.sliceFrom g 0 n n k 4 kV oV t<|G.sliceTo 4 (some ⟨g,0,none⟩) n n k kV oV ?_;have H:Nat.min k (n-k)<=k:=Ayj _ _;have V:Nat.min k (n-k)<=n-k:=Awi _ _;have W:0<Nat.min k (n-k):=by show 0<min k (n-k);omega
  refine G.copyA 124 124 103 4 g n k ⟨g,0,none⟩ k n (n-k) 103 PH.mt _ (List.replicate (Nat.min k (n-k)) e) kV kV kV d (D.replicate _) mV Q (Su D H oV d) ?_;intro m5 C;rw[Kh oV]at C;generalize Nat.min k (n-k)=q at *
  exact G.p k q (k+q:Nat)<|G.b (N (k+q) _ _ _ cV Z ⟨oV,oV,C⟩ oV)
 obtain rfl:k=n:=oV;refine G.lF k k ?_;rw[Avc,Av3,Auu]at d;exact G.r (.slice (some ⟨g,0,none⟩) k k) d
end
section
variable {q:Rat}
def sg (q:Rat):Int:=if q<0 then -1 else if 0<q then 1 else 0
theorem Tg (h:0<q):sg q=1:=by unfold sg;rw[if_neg (by grind),if_pos h]
def Qq (h:q<0):sg q = -1:=by unfold sg;rw[if_pos h]
def Am4:sg 0=0:=by simp[sg]
theorem Js (q:Rat):(q<0/\sg q = -1)\/(q=0/\sg q=0)\/(0<q/\sg q=1):=by
 by_cases h:q<0
 ·exact .inl ⟨h,Qq h⟩
 by_cases d:0<q
 ·exact .inr (.inr ⟨d,Tg d⟩)
 have:q=0:=by grind
 exact .inr (.inl ⟨this,by rw[this];exact Am4⟩)
def chg:Int->List Rat->Nat
 |_,[]=>0
 |s,q::l=>if sg q = -s then chg (-s) l+1 else chg s l
def Z6 (s:Int)(f:s=1\/s = -1):∀ l:List Rat,chg s l<=chg (-s) l+1
 |[]=>by simp[chg]
 |q::l=>by
  have g:=Z6 s f l;have d:=Z6 (-s) oV l;rw[A0l]at d;unfold chg;rw[A0l];rcases f with rfl|rfl<;>rcases Js q with ⟨_,e⟩|⟨_,e⟩|⟨_,e⟩<;>simp[e]at g d⊢<;>omega
def zer:List Rat->Nat
 |[]=>0
 |q::l=>if q=0 then zer l+1 else 0
def var (l:List Rat):Nat:=match l.drop (zer l) with
 |[]=>0
 |q::r=>chg (sg q) r
def Ajw (l:List Rat):var (0::l)=var l:=by unfold var;simp[zer]
def Arq (l:List Rat)(h:q≠0):var (q::l)=chg (sg q) l:=by unfold var;simp[zer,h]
def Aeg:∀ l:List Rat,zer l<=l.length
 |[]=>by simp[zer]
 |q::l=>by have:=Aeg l;unfold zer;split<;>simp<;>omega
end
def gR (l:List Rat)(i:Nat):Rat:=l.getD i 0
def gM (M:List (List Rat))(i:Nat):List Rat:=M.getD i []
def E3 (c:Rat):Nat->Nat->List (List Rat)->List (List Rat)
 |0,_,M=>M
 |f+1,i,M=>E3 c f (i+1) (M.set i ((gM M i).set i (gR (gM M i) i+c)))
def Ix (row:List Rat)(M:List (List Rat))(j:Nat):Nat->Nat->Rat->Rat
 |0,_,s=>s
 |f+1,m,s=>Ix row M j f (m+1) (s+gR row m*gR (gM M m) j)
def Eg (row:List Rat)(M:List (List Rat))(n:Nat):Nat->Nat->List Rat->List Rat
 |0,_,l=>l
 |f+1,j,l=>Eg row M n f (j+1) (l++[Ix row M j n 0 0])
def Fb (A M:List (List Rat))(n:Nat):Nat->Nat->List (List Rat)->Rat->List (List Rat)×Rat
 |0,_,N,t=>(N,t)
 |f+1,i,N,t=>Fb A M n f (i+1) (N++[Eg (gM A i) M n n 0 []]) (t+gR (Eg (gM A i) M n n 0 []) i)
def F5 (A:List (List Rat))(n:Nat):Nat->Nat->List (List Rat)->List Rat->List Rat
 |0,_,_,out=>out
 |f+1,k,M,out=>F5 A n f (k+1) (Fb A (E3 (gR out 0) n 0 M) n n 0 [] 0).1 ((Fb A (E3 (gR out 0) n 0 M) n n 0 [] 0).2/((-(k:Int):Int):Rat)::out)
def Ao (A:List (List Rat)):List Rat:=F5 A A.length A.length 1 (List.replicate A.length (List.replicate A.length 0)) [1]
def I5 (x:Rat)(i:Nat):Nat->List Rat->List Rat
 |0,l=>l
 |k+1,l=>if k<i then l else I5 x i k (l.set k (gR l k+x*gR l (k+1)))
def F3 (x:Rat):Nat->Nat->List Rat->List Rat
 |0,_,l=>l
 |f+1,i,l=>F3 x f (i+1) (I5 x i (l.length-1) l)
def Fc (x:Rat)(p:List Rat):List Rat:=F3 x p.length 0 p
def C7 (p:List Rat)(x:Rat):Int:=(p.length:Int)-1-(zer (Fc x p):Int)-(var (Fc x p):Int)
def Co (p:List Rat)(x:Rat):Nat:=zer (Fc x p)

def Nz (p:List Rat):Nat->Nat
 |0=>0
 |n+1=>if gR p n=0 then Nz p n else n+1
def Xk (p:List Rat):List Rat:=p.take (Nz p p.length)
def Ab7 (p:List Rat):Nat->Nat->List Rat->List Rat
 |0,_,out=>out
 |f+1,i,out=>Ab7 p f (i+1) (out++[gR p i*(((i:Nat):Int):Rat)])
def Og (p:List Rat):List Rat:=Ab7 p (p.length-1) 1 []
def Xj (q:List Rat)(f:Rat)(at':Nat):Nat->Nat->List Rat->List Rat
 |0,_,R=>R
 |k+1,i,R=>Xj q f at' k (i+1) (R.set (at'+i) (gR R (at'+i)-f*gR q i))
def Aa9 (q:List Rat):Nat->List Rat->List Rat->List Rat×List Rat
 |0,Q,R=>(Q,R)
 |n+1,Q,R=>Aa9 q n (Q.set n (gR R (n+q.length-1)/gR q (q.length-1))) (Xj q (gR R (n+q.length-1)/gR q (q.length-1)) n q.length 0 R)
def Aqr (p q:List Rat):List Rat×List Rat:=Aa9 q (p.length+1-q.length) (List.replicate (p.length+1-q.length) 0) p
def Aqm (p q:List Rat):List Rat:=(Aqr p q).1
def Aak (p q:List Rat):List Rat:=Xk (Aqr p q).2
def Au (p:List Rat)(low high:Rat):Int:=C7 p high+(Co p high:Int)-C7 p low-(Co p low:Int)
section
variable {a:Option Addr}{es:List Value}{i j k:Nat}{l p:List Rat}{q r:Rat}{v:Value}{α:Type}
section rules
variable {P:Program} [A7 P] {fn:Func} {Post:Bz} {st:List KI×S} {u m:PH}
def Acm {e:BinOp}{a b:Option Addr}{n c d c':Nat}(t:TypeId)(X Y:Operand)(w:World):(eqGuard e t X Y (.slice a n c) (.slice b d c')).run P w=.ok () w:=by
 unfold eqGuard;split<;>simp
def G.nilF (e:TypeId)(a:Addr)(n c:Nat)(h:Al P (adv P st)=.binT .eql (some (.slice e)) (.slice (some a) n c) (.slice none 0 0))(k:G P fn Post (nx (adv P st) (.bool false)) u m):G P fn Post st u m:=by
 refine G.ask h mV (fun H o d w _=>?_) k;obtain⟨t,X,Y,J,z,D,E,F⟩:=Mr d;obtain⟨C,I,A,pos,f,g⟩:=o;simp only at z;subst z;have:(Op.equal t (.slice (some a) n c) (.slice none 0 0)).run P w=.ok false w:=by
  unfold Op.equal;rw[show Op.maxDepth=9999+1 from rfl,Op.equalIn];simp[run_underlying F]
 simp[execOp,D,E,Acm,binOp,this]
def G.build0 (e:TypeId)(sz Q:Nat)(z:Value)(h:Al P (adv P st)=.buildS (some (e,sz,Q,z)) 0 [])(k:∀ g d,Ae m d (.slice (some ⟨g,0,none⟩) 0 0) e sz []->G P fn Post (nx (adv P st) (.slice (some ⟨g,0,none⟩) 0 0)) u d):G P fn Post st u m:=by
 refine G.big (K:=fun O I d=>I=u/\PH.le m d/\∃ g,O=.slice (some ⟨g,0,none⟩) 0 0/\Ae m d (.slice (some ⟨g,0,none⟩) 0 0) e sz []) h mV (fun D op Y=>?_) (.inl fun v I d A=>A.2.1) (fun D o n w F=>?_) (fun O I d W A=>?_)
 ·obtain⟨t,qs,rfl,_⟩:=Fm Y;rfl
 ·obtain⟨t,qs,J,U,hi⟩:=Fm n;obtain⟨R,Z,N,pos,C,E⟩:=o;simp only at J;subst J;obtain⟨X,i,H,V,rfl,rfl⟩:=Dx hi;obtain⟨g1,g2,L,g4⟩:=F.newM (cs:=#[]) (t:=e) mV;refine Bs (w':=w.alloc (.cells #[] e (0,0))) (v:=.slice (some ⟨w.heap.size,0,none⟩) 0 0) ?_ ⟨u,_,g1,g2,rfl,K5 _ L,_,rfl,fun _ h=>absurd h mV,.inr ⟨w.heap.size,0,[],L,rfl,rfl,Atb _,by simp[Av],mV⟩⟩;simp only[execOp,U];have T:∀ f:Nat->Value,Array.map f (Array.range 0) = #[]:=fun f=>by apply Ayk;simp
  simp[Instr.buildSlice,run_underlying X,sizeOf,typeInfo,H,newRow,Instr.fill,T]
 obtain⟨rfl,_,g,rfl,A⟩:=A;exact k g d A
end rules
def Ad.take' {u:PH}{n c sz:Nat}(h:Ad u (.slice a n c) sz es)(k:Nat)(t:k<=es.length):Ad u (.slice a k c) sz (es.take k):=by
 obtain⟨z,c',f,A,g⟩:=h;simp only[Value.slice.injEq]at f;obtain⟨rfl,_,rfl⟩:=f;refine⟨a,c,by rw[Atm,Av6 t],by rw[Atm];omega,fun j e d=>?_⟩;rw[Avu]at d;split at d
 ·exact g j e d
 cases d
def AtP.take {R:PH->Value->α->Prop}{u:PH}{xs:List α}(h:AtP R u es xs)(k:Nat):AtP R u (es.take k) (xs.take k):=by
 refine⟨by simp[h.1],fun j x d=>?_⟩;rw[Avu]at d⊢;split at d
 ·rename_i hlt;rw[if_pos hlt];exact h.2 j x d
 cases d
def AtP.at {R:PH->Value->α->Prop}{u:PH}{xs:List α}(h:AtP R u es xs)(d:j<xs.length):∃ e,es[j]?=some e/\R u e xs[j]:=h.2 j _ (As5 d)
def Bn.opn {u:PH}{v:Value}{d:List Rat}(h:Bn u v d):∃ a c,v=.slice a d.length c:=h.lp.opn
def Bn.at {u:PH}{a:Option Addr}{n c:Nat}{d:List Rat}(h:Bn u (.slice a n c) d){j:Nat}(H:j<d.length):∃ b off t f D A z g E C,a=some ⟨b,off,none⟩/\ElP u b (off+j*4) (.agg #[.bool t,.slice f D A,.bool z,.slice g E C])/\An u (.agg #[.bool t,.slice f D A,.bool z,.slice g E C]) (gR d j):=by
 obtain⟨b,off,e,rfl,I,F⟩:=h.lp.at (As5 H);obtain⟨t,f,D,A,z,g,E,C,rfl⟩:=F.opn;refine⟨b,off,t,f,D,A,z,g,E,C,rfl,I,?_⟩;have:gR d j=d[j]:=by simp[gR,H]
 rw[this];exact F
def AtP.ok4 {u:PH}{g:List Rat}(h:AtP An u es g):Ax 4 es:=by
 intro e t;obtain⟨j,f,rfl⟩:=Ayx.1 t;obtain⟨z,d,n⟩:=h.2 j (g[j]'(by rw[<-h.1];exact f)) (As5 _);rw[As5 f]at d;rw[Auq d];exact n.ok _ mV
def Gd (h:i<l.length):gR l i=l[i]:=by simp[gR,h]
def Ap6 (h:i<l.length):gR l i∈l:=by rw[Gd h];exact Ath h
def SzL (p:List Rat)(k:Nat):Prop:=∀ q∈p,Sz q k
def SzL.at (h:SzL p k)(hi:i<p.length):Sz (gR p i) k:=h _ (Ap6 hi)
def SzL.mono {p:List Rat}{j k:Nat}(h:SzL p j)(d:j<=k):SzL p k:=fun q e=>(h q e).mono d
theorem Ru (q:Rat):sgn q.num=sg q:=by
 rcases Js q with ⟨h,e⟩|⟨h,e⟩|⟨h,e⟩
 ·rw[e];refine Dc ?_;have:¬ (0<=q.num):=fun d=>by have:=Rat.num_nonneg.1 d;grind
  omega
 ·subst h;rw[e];rfl
 rw[e];refine Cg ?_;have f:0<=q.num:=Rat.num_nonneg.2 (by grind);have g:q.num≠0:=fun d=>by have:=Axp.1 d;grind
 omega
theorem Id :sg q=0↔q=0:=by
 rcases Js q with ⟨h,e⟩|⟨h,e⟩|⟨h,e⟩
 ·rw[e];constructor
  ·intro h';omega
  ·intro h';subst h';simp at h
 ·exact⟨fun _=>h,fun _=>e⟩
 ·rw[e];constructor
  ·intro h';omega
  ·intro h';subst h';simp at h
def J0 {u:PH}{x:Value}(h:An u x q)(e:Sz q k)(d:k<=100000000000000):Fn0 prog 96 [x] u fun v _=>v=.int .i64 (sg q):=by
 rw[<-Ru];exact Wv h (As9 e.1 d)
def Vj {u:PH}(h:Ad u v 4 es)(n:Ax 4 es)(h0:es≠[])(D:es.length<=1000000) :
 Aj prog 119 [v] u PH.mt fun z H t=>Ae PH.mt t z 103 4 es:=by
 obtain⟨a,c,rfl⟩:=h.opn;have d:0<es.length:=Avq.2 h0;obtain⟨b,off,rfl,_⟩:=Ad.at' h (As5 d);refine Aj.o func119<|G.nilF 103 ⟨b,off,none⟩ es.length c kV<|G.build0 103 4 64 (.agg #[.bool false,.slice none 0 0,.bool false,.slice none 0 0]) kV ?_;intro g E f;refine G.append 103 4 64 (.agg #[.bool false,.slice none 0 0,.bool false,.slice none 0 0]) PH.mt [] es (.slice (some ⟨g,0,none⟩) 0 0) b off es.length c kV rfl rfl oV f h.els n rfl d gV gV ?_;intro I F e;obtain⟨A,C,rfl⟩:=e.shape;exact G.r _ e
def Asb {u:PH}(h:Bn u v p)(L:SzL p k)(I:k<=100000000000000)(hn:p.length<=1000000) :
 Fn0 prog 189 [v] u fun Q F=>Bn F Q (Xk p):=by
 obtain⟨a,c,rfl⟩:=h.opn;refine Fn0.o func189<|G.l (ι:=Nat) (fun n=>[(0,sV a p.length c),(3,iV n)]) (fun _=>[])
  (fun n F N=>n<=p.length/\Nz p n=Nz p p.length/\N=PH.mt) (fun n=>n) p.length ⟨Atb _,rfl,rfl⟩ ?_
 rintro J n H O m1 A ⟨K,t,rfl⟩;have fin:∀ C,PH.le O C->Nz p n=n->Bn C (.slice a n c) (Xk p):=by
  intro C l2 e;obtain⟨es,f,g⟩:=h;have hl:es.length=p.length:=g.1;unfold Xk;rw[<-t,e];exact⟨es.take n,(f.take' n oV).mono (A.trans l2),(AtP.take (show AtP An u es p from g) n).mono (fun _ _ h=>h.mono (A.trans l2))⟩
 have D:p.length<=c:=by
  obtain⟨es,⟨R,c',f,g,_⟩,Z⟩:=h;simp only[Value.slice.injEq]at f;omega
 by_cases E:0<n
 ·obtain⟨d,rfl⟩:∃ d,n=d+1:=⟨n-1,oV⟩;refine G.gT (d+1:Nat) 0<|G.s (d+1:Nat) 1 d ?_;obtain⟨b,off,V,T,n1,X,W,U,n2,Y,rfl,f,g⟩:=(h.mono A).at (j:=d) oV;refine G.a b off p.length c d 4 oV<|G.lU (some 4) b (off+d*4) _ f<|G.c call96 (J0 g (L.at oV) I) ?_;rintro v2 C l2 rfl;by_cases z:gR p d=0
  ·refine G.eT' (sg (gR p d)) 0 (Id.2 z)<|G.s (d+1:Nat) 1 d<|G.b (H d _ _ _ cV (A.trans l2) ⟨oV,?_,rfl⟩ oV);rw[<-t,Nz,if_pos z]
  exact G.eF' (sg (gR p d)) 0 (fun h=>z (Id.1 h))<|G.sliceTo 4 (some ⟨b,off,none⟩) p.length c (d+1) kV oV<|G.r _ ⟨rfl,fin _ l2 (by rw[Nz,if_neg z])⟩
 obtain rfl:n=0:=oV;exact G.gF (0:Nat) 0<|G.sliceTo 4 a p.length c 0 kV oV<|G.r _ ⟨rfl,fin _ (PH.le_refl _) rfl⟩
def Nx {z:Int}(h:z.natAbs<1000000000):Sz (z:Rat) 1:=⟨A0 (by simpa using h),A0 mV⟩
def Fx (h:Sz q j)(d:Sz r k):Sz (q+r) (j+k+1):=by
 rw[<-R1 q r];have f:=Fz q.num.natAbs r.den;have g:=Fz r.num.natAbs q.den;have n:=Fz q.den r.den;have t:=Al2 (q.num.natAbs*r.den) (r.num.natAbs*q.den);have e:(q.num*(r.den:Int)+r.num*(q.den:Int)).natAbs<=q.num.natAbs*r.den+r.num.natAbs*q.den:=by
  refine As9 (Int.natAbs_add_le _ _) ?_;rw[Au7,Au7];simp
 have z:=Ct e;have:=h.1;have:=h.2;have:=d.1;have:=d.2;exact Mq (Sk q r) oV (by rw[Au7];simp only[Atv];omega)
def Ajy (h:Sz q k):Sz (-q) k:=⟨by rw[A1j,Avp];exact h.1,by rw[A1k];exact h.2⟩
def Ao8 (h:Sz q j)(d:Sz r k):Sz (q-r) (j+k+1):=by
 rw[Ayg];exact Fx h (Ajy d)
def Zc (h:Sz q j)(d:Sz r k):Sz (q*r) (j+k):=by
 rw[<-Yq q r];have e:=Fz q.num.natAbs r.num.natAbs;have f:=Fz q.den r.den;have:=h.1;have:=h.2;have:=d.1;have:=d.2;exact Mq (Sk q r) (by rw[Au7];omega) (by rw[Au7];simp only[Atv];omega)
def Ab2 {u:PH}(h:Bn u v p)(hs:SzL p k)(hk:k<=100000000000)(hn:p.length<=1000000) :
 Fn0 prog 136 [v] u fun v' Q=>Bn Q v' (Og p):=by
 obtain⟨a,c,rfl⟩:=h.opn;refine Fn0.o func136<|G.l (ι:=Nat×List Value×List Rat×(Option Addr×Nat×Nat)) (fun i=>[(0,sV a p.length c),(3,sV i.2.2.2.1 i.2.2.2.2.1 i.2.2.2.2.2),(4,iV (i.1+1:Nat))]) (fun _=>[])
  (fun i Q m'=>i.1<=p.length-1/\Ab7 p (p.length-1-i.1) (i.1+1) i.2.2.1=Og p/\i.2.2.1.length=i.1/\AtP An Q i.2.1 i.2.2.1/\Ae PH.mt m' (.slice i.2.2.2.1 i.2.2.2.2.1 i.2.2.2.2.2) 103 4 i.2.1) (fun i=>p.length-1-i.1) (0,[],[],(none,0,0))
  ⟨Atu _,rfl,rfl,AtP.nil,Ae.nil _ _ _⟩ ?_
 rintro J ⟨i,es,O,⟨R,Y,T⟩⟩ U u1 m1 W ⟨hi,n,D,hF,L⟩;simp only at hi n D hF L U;have a9:=hF.1;by_cases A:i+1<p.length
 ·refine G.lT (i+1:Nat) p.length ?_;obtain⟨b,off,b1,Z,aa,a6,b2,a2,n2,c2,rfl,e1,e2⟩:=(h.mono W).at (j:=i+1) A;refine G.a b off p.length c (i+1) 4 A<|G.lU (some 4) b (off+(i+1)*4) _ e1<|G.c call56 (Dk (z:=((i+1:Nat):Int)) oV oV) ?_;intro v2 u2 l2 V;obtain⟨b3,a3,n3,c3,a4,a0,ab,a8,rfl⟩:=V.opn;refine G.c call42 (L5 (e2.mono l2) V ((hs.at A).mono oV) ((Nx oV).mono oV)) ?_;intro v4 u4 X I;obtain⟨F,E,K,H,e,d,t,f,rfl⟩:=I.opn;refine G.B 103 4 64 (.agg #[.bool false,.slice none 0 0,.bool false,.slice none 0 0]) [.agg #[.bool F,.slice E K H,.bool e,.slice d t f]] I.ok ?_;intro g u6 N e6;refine G.append 103 4 64 (.agg #[.bool false,.slice none 0 0,.bool false,.slice none 0 0]) PH.mt es [.agg #[.bool F,.slice E K H,.bool e,.slice d t f]] (.slice R Y T) g 0 1 1 kV rfl rfl oV L e6 I.ok rfl oV oV oV ?_;intro v7 m7 C;obtain⟨a7,c7,rfl⟩:=C.shape;refine G.p (i+1:Nat) 1 (i+1+1:Nat)<|G.b (U (i+1,es++[.agg #[.bool F,.slice E K H,.bool e,.slice d t f]],O++[gR p (i+1)*((((i+1:Nat):Nat):Int):Rat)],(a7,(es++[Value.agg #[.bool F,.slice E K H,.bool e,.slice d t f]]).length,c7)) _ _ _ cV (((W.trans l2).trans X).trans N) ⟨dV,?_,by dsimp only;simp[D],?_,C⟩ dV)
  ·dsimp only;rw[<-n,show p.length-1-i=(p.length-1-(i+1))+1 by omega,Ab7]
  exact (hF.mono (fun _ _ h=>h.mono ((l2.trans X).trans N))).snoc (I.mono N)
 refine G.lF (i+1:Nat) p.length<|G.give PH.mt es _ kV L (fun _=>.inl rfl) ?_;intro u3 l3 hL;rw[show p.length-1-i=0 by omega,Ab7]at n;rw[n]at hF;exact G.r (.slice R Y T) ⟨rfl,es,hL,hF.mono (fun _ _ h=>h.mono l3)⟩
end
section
variable {S T:Nat}{p:List Rat}{u:PH}{v y:Value}{x:Rat}
def bd (S T:Nat):Nat->Nat
 |0=>S
 |t+1=>bd S T t+(T+bd S T t)+1
def App (S T:Nat):∀ t,bd S T t+(T+1)=2^t*(S+T+1)
 |0=>by simp[bd];omega
 |t+1=>by
  have:=App S T t;rw[Auc,At7 (2^t) 2,Atz,<-this];simp only[bd];omega
def Amk {S T t:Nat}(e:t<=20)(h:S+T+1<=500000):bd S T t<=1000000000000:=by
 have f:=App S T t;have d:2^t<=2^20:=Atq oV e;have g:2^t*(S+T+1)<=2^20*500000:=Aut d h;omega
def Afm (S T t:Nat):bd S T t<=bd S T (t+1):=by simp only[bd];omega
def Zv (S T : Nat) {t : Nat} : ∀ {d : Nat}, t ≤ d → bd S T t ≤ bd S T d
  | 0, h => by obtain rfl : t = 0 := by omega
               exact Atb _
  | d + 1, h => by
    rcases At8 t (d + 1) with e | e
    · exact As9 (Zv S T oV) (Afm S T d)
    obtain rfl : t = d + 1 := by omega
    exact Atb _
def Lx (n:Nat):Nat->Nat
 |0=>0
 |i+1=>Lx n i+(n-1-i)
def Afq (n : Nat) {i : Nat} : ∀ {d : Nat}, i ≤ d → Lx n i ≤ Lx n d
  | 0, h => by obtain rfl : i = 0 := by omega
               exact Atb _
  | d + 1, h => by
    rcases At8 i (d + 1) with e | e
    · exact As9 (Afq n oV) (Nat.le_add_right _ _)
    obtain rfl : i = d + 1 := by omega
    exact Atb _
theorem Rz {n:Nat}(h:n<=7):Lx n n<=21/\(n<=5->Lx n n<=10) :=
 (by decide:∀ n:Nat,n<=7->Lx n n<=21/\(n<=5->Lx n n<=10)) n h
def SzL.set {k i:Nat}{q:Rat}(h:SzL p k)(e:Sz q k):SzL (p.set i q) k:=by
 intro x d;rcases Axy d with d|rfl
 ·exact h x d
 exact e
def Hp (x : Rat) (i : Nat) : ∀ (k : Nat) (l : List Rat), (I5 x i k l).length = l.length
  | 0, l => rfl
  | k + 1, l => by unfold I5; split
                   · rfl
                   rw [Hp x i k]; simp
def Ls (x:Rat):∀ (f i:Nat) (l:List Rat),(F3 x f i l).length=l.length
 |0,_,l=>rfl
 |f+1,i,l=>by unfold F3;rw[Ls x f,Hp]
def Gy (x:Rat)(p:List Rat):(Fc x p).length=p.length:=Ls ..
def Ac1 : ∀ {l : List Rat} {i : Nat}, i < zer l → gR l i = 0
  | [], i, h => by simp [zer] at h
  | q :: l, 0, h => by unfold zer at h; split at h; · rename_i e; simp [gR, e]
                       omega
  | q :: l, i + 1, h => by
    unfold zer at h; split at h
    · have := Ac1 (l := l) (i := i) oV
      simpa [gR] using this
    omega
def Acw:∀ {l:List Rat},zer l<l.length->gR l (zer l)≠0
 |[],h=>by simp[zer]at h
 |q::l,h=>by
  unfold zer at h⊢;split
  ·rename_i e;rw[if_pos e]at h;have:=Acw (l:=l) (by simp at h;omega);simpa[gR] using this
  rename_i e;simpa[gR] using e
def Ahs {l:List Rat}(h:zer l<l.length):chg (sg (gR l (zer l))) (l.drop (zer l))=var l:=by
 unfold var;have e:l.drop (zer l)=l[zer l]::l.drop (zer l+1):=Aw9 h;rw[e,Gd h];simp only[chg];rw[if_neg];intro f;have:sg l[zer l]=0:=oV
 have:=Id.1 this;have d:=Acw h;rw[Gd h]at d;exact d this
def Aqf (q:Rat):-1<=sg q/\sg q<=1:=by rcases Js q with ⟨_,e⟩|⟨_,e⟩|⟨_,e⟩<;>rw[e]<;>omega
def Acp:∀ (l:List Rat) (s:Int),chg s l<=l.length
 |[],s=>by simp[chg]
 |q::l,s=>by
  have d:=Acp l s;have e:=Acp l (-s);unfold chg;split<;>simp<;>omega
theorem Akz (l:List Rat):var l<=l.length:=by
 unfold var;split
 ·omega
 ·rename_i q r e;have h1:=Acp r (sg q);have h2:(l.drop (zer l)).length=(q::r).length:=by rw[e]
  simp at h2;omega
def Amb (h:Bn u v p)(hy:An u y x)(hs:SzL p S)(hx:Sz x T)(a2:bd S T (Lx p.length p.length)<=1000000000000)(b4:T<=500000)(hn:p.length<=7)(hz:zer (Fc x p)<p.length) :
 Fn0 prog 53 [v,y] u fun v' _=>v'=.tuple #[.int .i64 (C7 p x),.int .i64 (Co p x:Int)]:=by
 obtain⟨a,c,rfl⟩:=h.opn;have b2:0<p.length:=oV;obtain⟨Z,an,a8⟩:=id h;have W:AtP An u Z p:=a8;have A:Z.length=p.length:=a8.1;have ay:=hy.opn;obtain⟨yb,ya,yn,yc,aj,ai,al,ak,rfl⟩:=ay;refine Fn0.o func53<|G.callO _ _ kV call119 (Vj an W.ok4 (by intro e;rw[e]at A;simp at A;omega) oV) ?_;intro v1 u1 m1 l1 R b6;rw[C3];obtain⟨g,cap,rfl⟩:=R.ptr (by intro e;rw[e]at A;simp at A;omega);have a3:=R.cap;rw[A]at R a3⊢;generalize hN:p.length=n at *
 have ah:∀ {q:Rat} {t:Nat},Sz q (bd S T t)->t<=Lx n n->Sz q 1000000000000:=fun h1 h2=>h1.mono (As9 (Zv S T h2) a2);refine G.l (ι:=Nat×List Value×List Rat×Nat) (fun i=>[(0,sV a n c),(3,.p 0 0),(5,iV 0),(6,sV (some ⟨g,0,none⟩) n cap),(16,iV n),(17,iV i.1)])
  (fun _=>[(0,⟨103,[bV yb,sV ya yn yc,bV aj,sV ai al ak]⟩)])
  (fun i u' m'=>i.1<=n/\i.2.2.1.length=n/\F3 x (n-i.1) i.1 i.2.2.1=Fc x p/\i.2.2.2<=Lx n i.1/\SzL i.2.2.1 (bd S T i.2.2.2)/\AtP An u' i.2.1 i.2.2.1/\Ae PH.mt m' (.slice (some ⟨g,0,none⟩) n cap) 103 4 i.2.1)
  (fun i=>n-i.1) (0,Z,p,0)
  ⟨Atu _,hN,by dsimp only;rw[Awx,<-hN];rfl,Atb _,hs,W.mono (fun _ _ h=>h.mono l1),R⟩ ?_
 rintro J ⟨i,es,f,t⟩ hJ u2 m2 l2 ⟨hi,a4,L,ht,Q,hF,hA⟩;simp only at hi a4 L ht Q hF hA hJ;by_cases b8:i<n
 ·refine G.lT i n<|G.sub (n:Int) 2 ((n:Int)-2) kV rfl oV oV<|G.l (ι:=Int×Nat×List Value×List Rat×Nat) (fun j=>[(0,sV a n c),(3,.p 0 0),(5,iV 0),(6,sV (some ⟨g,0,none⟩) n cap),(7,iV i),(8,iV j.1),(16,iV n),(17,iV i)])
   (fun _=>[(0,⟨103,[bV yb,sV ya yn yc,bV aj,sV ai al ak]⟩)])
   (fun j u' m'=>j.1=(j.2.1:Int)-1/\(i<=j.2.1/\j.2.1<=n-1)/\j.2.2.2.1.length=n/\I5 x i j.2.1 j.2.2.2.1=I5 x i (n-1) f/\j.2.2.2.2<=Lx n i+(n-1-j.2.1)/\SzL j.2.2.2.1 (bd S T j.2.2.2.2)/\AtP An u' j.2.2.1 j.2.2.2.1/\Ae PH.mt m' (.slice (some ⟨g,0,none⟩) n cap) 103 4 j.2.2.1)
   (fun j=>j.2.1) ((n:Int)-2,n-1,es,f,t)
   ⟨dV,⟨dV,Atb _⟩,a4,rfl,dV,Q,hF,hA⟩ ?_
  have b3:Lx n i+(n-1-i)<=Lx n n:=Afq n (i:=i+1) oV;rintro J2 ⟨zk,kk,a0,m,t2⟩ U u3 m3 Y ⟨az,au,I,N,ax,C,D,H⟩;simp only at az au I N ax C D H U;have b1:=D.1;by_cases b7:(i:Int)<=zk
  ·obtain⟨k,rfl⟩:∃ k:Nat,zk=(k:Int):=⟨zk.toNat,oV⟩;obtain rfl:kk=k+1:=oV;refine G.hT k i ?_;have hk:k<m.length:=oV;have a6:k+1<m.length:=oV;obtain⟨e1,V,z⟩:=D.at hk;obtain⟨x1,x2,x3,x4,x5,x6,x7,x8,rfl⟩:=z.opn;obtain⟨e2,ap,X⟩:=D.at a6;obtain⟨z1,z2,z3,z4,z5,z6,z7,z8,rfl⟩:=X.opn;refine G.a g 0 n cap k 4 oV<|G.lM (some 4) g (0+k*4) _ (H.el V)<|G.i k<|G.a g 0 n cap (k+1) 4 oV<|G.lM (some 4) g (0+(k+1)*4) _ (H.el ap) ?_;have hl:PH.le u u3:=l1.trans (l2.trans Y);have P:Sz m[k] (bd S T t2):=C _ (Ath hk);have ae:Sz m[k+1] (bd S T t2):=C _ (Ath a6);have af:=Zc hx ae;have aw:=Fx P af;refine G.c call42 (L5 (hy.mono hl) X (hx.mono oV) (ah ae oV)) ?_;intro v4 u4 l4 k4;obtain⟨y1,y2,y3,y4,y5,y6,y7,y8,rfl⟩:=k4.opn;refine G.c call57 (D4 (z.mono l4) k4 (ah P oV) (af.mono (by have:=As9 (Zv S T (t:=t2+1) (d:=Lx n n) oV) a2;simp only[bd]at this;omega))) ?_;intro v5 u5 l5 k5;obtain⟨w1,w2,w3,w4,w5,w6,w7,w8,rfl⟩:=k5.opn;refine G.a g 0 n cap k 4 oV<|G.storeA 4 PH.mt a0 g n cap k (.agg #[.bool w1,.slice w2 w3 w4,.bool w5,.slice w6 w7 w8]) kV H oV rfl rfl ?_;intro m6 am;refine G.sub (k:Int) 1 ((k:Int)-1) kV rfl oV oV<|G.b (U ((k:Int)-1,k,a0.set k (.agg #[.bool w1,.slice w2 w3 w4,.bool w5,.slice w6 w7 w8]),m.set k (m[k]+x*m[k+1]),t2+1) _ _ _ cV ((Y.trans l4).trans l5) ⟨rfl,⟨dV,dV⟩,by simp[I],?_,dV,?_,?_,am⟩ dV)
   ·dsimp only;rw[<-N,I5,if_neg oV,Gd hk,Gd a6]
   ·exact (C.mono (Afm S T t2)).set aw
   exact (D.mono (fun _ _ h=>h.mono (l4.trans l5))).set k k5
  refine G.hF zk i ?_;have a9:I5 x i kk m=m:=by
   cases kk with
   |zero=>rfl
   |succ k=>rw[I5,if_pos oV]
  refine G.i i<|G.b (hJ (i+1,a0,m,t2) _ _ _ cV (l2.trans Y) ⟨dV,I,?_,by dsimp only[Lx];omega,C,D,H⟩ dV);dsimp only;rw[<-L,show n-i=(n-(i+1))+1 by omega,F3,a4,<-N,a9]
 obtain rfl:i=n:=oV;refine G.lF i i ?_;rw[Avc,F3]at L;have av:zer f<f.length:=by rw[L,Gy,hN];exact hz
 have b5:=hF.1;have b9:=Akz f;refine G.l (ι:=Nat) (fun e=>[(0,sV a i c),(5,iV e),(6,sV (some ⟨g,0,none⟩) i cap)]) (fun _=>[])
  (fun e u' m'=>e<=zer f/\m'=m2) (fun e=>zer f-e) 0 ⟨Atu _,rfl⟩ ?_
 rintro J2 e U u3 m3 Y ⟨he,rfl⟩;have K:e<f.length:=oV;obtain⟨e1,V,z⟩:=hF.at K;obtain⟨x1,x2,x3,x4,x5,x6,x7,x8,rfl⟩:=z.opn;rw[<-Gd K]at z;refine G.a g 0 i cap e 4 oV<|G.lM (some 4) g (0+e*4) _ (hA.el V) ?_;have b0:=As9 (Zv S T ht) a2;refine G.c call96 (J0 (z.mono Y) (Q.at K) oV) ?_;rintro v4 u4 l4 rfl;by_cases aa:e<zer f
 ·exact G.eT' (sg (gR f e)) 0 (Id.2 (Ac1 aa))<|G.i e<|G.b (U (e+1) _ _ _ cV (Y.trans l4) ⟨oV,rfl⟩ oV)
 obtain rfl:e=zer f:=oV;refine G.eF' (sg (gR f (zer f))) 0 (fun h=>Acw av (Id.1 h)) ?_;generalize hE:zer f=E at *
 refine G.a g 0 i cap E 4 oV<|G.lM (some 4) g (0+E*4) _ (hA.el V)<|G.c call96 (J0 (z.mono (Y.trans l4)) (Q.at K) oV) ?_;rintro v5 u5 l5 rfl;refine G.sliceFrom g 0 i cap E 4 kV oV oV ?_;have ag:=Ahs (l:=f) (by rw[hE];exact K);rw[hE]at ag;have P:=Aqf (gR f E);refine G.l (ι:=Nat×Nat×Int) (fun j=>[(0,sV a i c),(5,iV E),(9,iV j.2.1),(10,iV j.2.2),(59,sV (some ⟨g,0+E*4,none⟩) (i-E) (cap-E)),(60,iV (i-E:Nat)),(61,iV j.1)]) (fun _=>[])
  (fun j u' m'=>j.1<=i-E/\j.2.1<=j.1/\j.2.1+chg j.2.2 (f.drop (E+j.1))=var f/\-1<=j.2.2/\j.2.2<=1/\m'=m3) (fun j=>i-E-j.1) (0,0,sg (gR f E))
  ⟨Atu _,Atb _,by dsimp only;rw[Avb,Aud];exact ag,P.1,P.2,rfl⟩ ?_
 rintro J3 ⟨j,gr,s⟩ a1 u6 m6 l6 ⟨hj,ar,F,ac,ad,rfl⟩;simp only at hj ar F ac ad a1;by_cases ab:j<i-E
 ·refine G.lT j (i-E:Nat) ?_;have O:E+j<f.length:=oV;obtain⟨e7,aq,a5⟩:=hF.at O;obtain⟨w1,w2,w3,w4,w5,w6,w7,w8,rfl⟩:=a5.opn;rw[<-Gd O]at a5;have a7:=hA.el aq;rw[show 0+(E+j)*4=0+E*4+j*4 by omega]at a7;refine G.a g (0+E*4) (i-E) (cap-E) j 4 ab<|G.lM (some 4) g (0+E*4+j*4) _ a7<|G.c call96 (J0 (a5.mono (((Y.trans l4).trans l5).trans l6)) (Q.at O) oV) ?_;rintro v8 u8 l8 rfl;refine G.neg s (-s) kV rfl oV oV ?_;have ao:f.drop (E+j)=gR f (E+j)::f.drop (E+j+1):=by rw[Gd O];exact Aw9 O
  rw[ao,chg]at F;by_cases hq:sg (gR f (E+j)) = -s
  ·rw[if_pos hq]at F;exact G.eT' (sg (gR f (E+j))) (-s) hq<|G.i gr<|G.neg s (-s) kV rfl oV oV<|G.i j<|G.b (a1 (j+1,gr+1,-s) _ _ _ cV (l6.trans l8) ⟨dV,dV,by dsimp only;rw[show E+(j+1)=E+j+1 by omega];omega,dV,dV,rfl⟩ dV)
  rw[if_neg hq]at F;exact G.eF' (sg (gR f (E+j))) (-s) hq<|G.i j<|G.b (a1 (j+1,gr,s) _ _ _ cV (l6.trans l8) ⟨dV,dV,by dsimp only;rw[show E+(j+1)=E+j+1 by omega];omega,ac,ad,rfl⟩ dV)
 obtain rfl:j=i-E:=oV;refine G.lF (i-E:Nat) (i-E:Nat) ?_;rw[Aue oV,chg]at F;refine G.sub (i:Int) 1 ((i:Int)-1) kV rfl oV oV<|G.sub ((i:Int)-1) (E:Int) ((i:Int)-1-(E:Int)) kV rfl oV oV<|G.sub ((i:Int)-1-(E:Int)) (gr:Int) ((i:Int)-1-(E:Int)-(gr:Int)) kV rfl oV oV<|G.drop PH.mt kV (PH.mt_le _)<|G.r (.tuple #[.int .i64 ((i:Int)-1-(E:Int)-(gr:Int)),.int .i64 E]) ⟨rfl,?_⟩;unfold C7 Co;rw[<-L,hE,hN,<-F];simp
def Aj1 (h:Bn u v p)(j:An u y x)(f:SzL p S)(g:Sz x T)(d:S+T+1<=500000)(e:p.length<=5)(m:zer (Fc x p)<p.length) :
 Fn0 prog 53 [v,y] u fun t _=>t=.tuple #[.int .i64 (C7 p x),.int .i64 (Co p x:Int)] :=
 Amb h j f g (Amk (by have:=(Rz (n:=p.length) oV).2 e;omega) d) oV oV m
end
section
variable {M:List (List Rat)}{q:Rat}{u:PH}
structure F4 where
 b:Bool
 a:Option Addr
 n:Nat
 c:Nat
 b':Bool
 a':Option Addr
 n':Nat
 c':Nat
def fv (f:F4):Value:=.agg #[.bool f.b,.slice f.a f.n f.c,.bool f.b',.slice f.a' f.n' f.c']
def fc (f:F4):List SV:=[.v (.bool f.b),.v (.slice f.a f.n f.c),.v (.bool f.b'),.v (.slice f.a' f.n' f.c')]
def An.opF {v:Value}(h:An u v q):∃ f,v=fv f:=by
 obtain⟨b,a,n,c,b',d,e,c',rfl⟩:=h.opn;exact⟨⟨b,a,n,c,b',d,e,c'⟩,rfl⟩
def Rc (f:F4):Ax 4 [fv f]:=by
 intro x d;simp at d;subst d;exact⟨rfl,fun y e=>by simp[fv,Value.cells]at e;rcases e with rfl|rfl|rfl|rfl<;>rfl⟩
def Bp (r:Value×List Value):Arr:=⟨r.1,103,4,r.2⟩
def C4 (v:Value)(es:List Value):Arr:=⟨v,103,4,es⟩
def Cv (g n:Nat)(rows:List (Value×List Value)):Arr:=⟨.slice (some ⟨g,0,none⟩) n n,123,1,rows.map (·.1)⟩
def Bag.perm {l f:List Arr}(h:l.Perm f):∀ {m:PH},Bag m l->Bag m f:=by
 induction h with
 |nil=>exact fun h=>h
 |cons x _ ih=>exact fun⟨m0,d,e⟩=>⟨m0,d,ih e⟩
 |swap x y l =>
  rintro m ⟨D,v,m0,t,g⟩;obtain⟨C,z,A,_⟩:=At.swap v t;exact⟨C,A,m0,z,g⟩
 |trans _ _ d e=>exact fun h=>e (d h)
section bag
variable {o:Arr} {rows:List (Value×List Value)} {rest:List Arr} {i j n:Nat} {r r':Value×List Value} {x x':Arr}
def Gx (h:rows[i]?=some r):(o::(rows.map Bp++rest))[i+1]?=some (Bp r):=by
 have e:i<rows.length:=by
  rcases At8 i rows.length with d|d
  ·exact d
  rw[Att d]at h;cases h
 rw[Aya,Atl (by simpa using e),Aty,h];rfl
def X9 (h:i<rows.length):(o::(rows.map Bp++rest)).set (i+1) (Bp r')=o::((rows.set i r').map Bp++rest):=by
 rw[Avi,Ayu _ _ (by simpa using h),Axb]
def Ig (d:rows.length=n)(h:rest[j]?=some x):(o::(rows.map Bp++rest))[n+1+j]?=some x:=by
 rw[show n+1+j=(n+j)+1 by omega,Aya,At1 gV];simp[d,h]
def Abr (d:rows.length=n):(o::(rows.map Bp++rest)).set (n+1+j) x'=o::(rows.map Bp++rest.set j x'):=by
 rw[show n+1+j=(n+j)+1 by omega,Avi,Awm _ _ gV];simp[d]
end bag
def MAt (u:PH)(rows:List (Value×List Value))(M:List (List Rat)):Prop:=rows.length=M.length/\∀ (i:Nat) (r:Value×List Value),rows[i]?=some r->AtP An u r.2 (gM M i)
def MAt.mono {u d:PH}{rows:List (Value×List Value)}{M:List (List Rat)}(h:MAt u rows M)(e:PH.le u d):MAt d rows M:=⟨h.1,fun i r f=>(h.2 i r f).mono (fun _ _ k=>k.mono e)⟩
def Ux {i j:Nat}{q:List Rat}(hi:i<M.length):gM (M.set i q) j=if i=j then q else gM M j:=by
 unfold gM;simp only[As7,Au5];split
 ·rename_i e;subst e;simp
 rfl
def MAt.set {rows:List (Value×List Value)}{i:Nat}{r:Value×List Value}{q:List Rat}(h:MAt u rows M)(hi:i<rows.length)(f:AtP An u r.2 q):MAt u (rows.set i r) (M.set i q):=by
 refine⟨by simp[h.1],fun j r' d=>?_⟩;rw[Ux (by rw[<-h.1];exact hi)];rw[Au5]at d;by_cases e:i=j
 ·subst e;rw[if_pos rfl,if_pos hi]at d;simp only[Atd]at d;rw[if_pos rfl,<-d];exact f
 rw[if_neg e]at d⊢;exact h.2 j r' d
def SqM (n:Nat)(M:List (List Rat)):Prop:=M.length=n/\∀ i,i<n->(gM M i).length=n
def SzM (M:List (List Rat))(k:Nat):Prop:=∀ i j,i<M.length->j<(gM M i).length->Sz (gR (gM M i) j) k
def SzM.mono {M:List (List Rat)}{j k:Nat}(h:SzM M j)(d:j<=k):SzM M k:=fun a b e f=>(h a b e f).mono d
theorem SqM.set {n : Nat}  {i : Nat} {q : List Rat} (h : SqM n M) (hi : i < n) (hq : q.length = n) : SqM n (M.set i q) :=
  ⟨by simp [h.1], fun j hj => by rw [Ux (by rw [h.1]; exact hi)]; split; · exact hq
                                 · exact h.2 j hj⟩
def Yb {l:List Rat}{i j:Nat}(hi:i<l.length):gR (l.set i q) j=if i=j then q else gR l j:=by
 unfold gR;simp only[As7,Au5];split
 ·rename_i e;subst e;simp
 rfl
def Rd {i:Nat}(h:i<M.length):gM M i=M[i]:=by simp[gM,h]
def cb (T:Nat):Nat->Nat
 |0=>1
 |k+1=>72*cb T k+36*T+86
def Ask {T k n:Nat}(v:n<=6)(d:k<n)(hT:T<=3\/n<=4/\T<=400):cb T k<=8000000000:=by
 have h0:cb T 0=1:=rfl;have e:cb T 1=72*cb T 0+36*T+86:=rfl;have f:cb T 2=72*cb T 1+36*T+86:=rfl;have g:cb T 3=72*cb T 2+36*T+86:=rfl;have m:cb T 4=72*cb T 3+36*T+86:=rfl;have t:cb T 5=72*cb T 4+36*T+86:=rfl
 match k,d with
 |0,_=>omega
 |1,_=>omega
 |2,_=>omega
 |3,_=>omega
 |4,_=>omega
 |5,_=>omega
 |k+6,h=>omega
def Aj0 {q r:Rat}{j k:Nat}(h:Sz q j)(m:Sz r k)(A:r≠0):Sz (q/r) (j+k):=by
 rw[<-Afu q r];have C:=Fz q.num.natAbs r.den;have D:=Fz q.den r.num.natAbs;have E:=h.1;have F:=h.2;have H:=m.1;have I:=m.2;have z:r.num≠0:=fun e=>A (Axp.1 e);have t:(q.den:Int)≠0:=by have:=q.den_pos;omega
 have f:nl (q.num*(r.den:Int)).natAbs<=j+k:=by rw[Au7];simp only[Atv];omega
 have g:nl ((q.den:Int)*r.num).natAbs<=j+k:=by rw[Au7];simp only[Atv];omega
 rcases Int.lt_or_lt_of_ne (A1c t z) with v|d
 ·have e:Rat.divInt (q.num*(r.den:Int)) ((q.den:Int)*r.num)=Rat.divInt (-(q.num*(r.den:Int))) (-((q.den:Int)*r.num)):=(Rat.neg_divInt_neg _ _).symm;rw[e];exact Mq oV (by rw[Avp];exact f) (by rw[Avp];exact g)
 exact Mq d f g
end
section
variable {A:List (List Rat)}{i n:Nat}{m m0 u:PH}{rows:List (Value×List Value)}{v:Value}
def zF:Value:=.agg #[.bool false,.slice none 0 0,.bool false,.slice none 0 0]
def Hz {g n:Nat}:(Cv g n rows).At m0 m=Ae m0 m (.slice (some ⟨g,0,none⟩) n n) 123 1 (rows.map (·.1)):=rfl
def H3 {es:List Value}:(C4 v es).At m0 m=Ae m0 m v 103 4 es:=rfl
def Wt {r:Value×List Value}:(Bp r).At m0 m=Ae m0 m r.1 103 4 r.2:=rfl
def E1:Value×List Value:=(.slice none 0 0,[])
def Bag.nils {l:List Arr}{m:PH}(h:Bag m l):∀ n,Bag m ((List.replicate n E1).map Bp++l)
 |0=>h
 |n+1=>⟨m,Ae.nil _ _ _,Bag.nils h n⟩
def MAt.at {M:List (List Rat)}(h:MAt u rows M)(hi:i<rows.length):∃ r,rows[i]?=some r/\AtP An u r.2 (gM M i):=⟨rows[i],As5 hi,h.2 i _ (As5 hi)⟩
def Ul.cell {a:Option Addr}{n c i j:Nat}(h:Ul u (.slice a n c) A)(hi:i<A.length)(I:j<(gM A i).length) :
 ∃ b off b' d c' f,a=some ⟨b,off,none⟩/\ElP u b (off+i*1) (.slice (some ⟨b',d,none⟩) (gM A i).length c')/\ElP u b' (d+j*4) (fv f)/\An u (fv f) (gR (gM A i) j):=by
 obtain⟨b,off,e,rfl,H,g⟩:=LP.at h (As5 hi);rw[<-Rd hi]at g;obtain⟨O,c',rfl⟩:=g.opn;obtain⟨b',d,C,t,L,E,D,z,N,F,rfl,J,K⟩:=g.at I;exact⟨b,off,b',d,c',⟨C,t,L,E,D,z,N,F⟩,rfl,H,J,K⟩
structure St where
 k:Nat
 g:Nat
 rows:List (Value×List Value)
 M:List (List Rat)
 es:List Value
 qs:List Rat
 gb:List Arr
structure Ar5 (u m:PH)(n T gO cO:Nat)(A:List (List Rat))(s:St):Prop where
 hk:s.k<=n
 ql:s.qs.length=s.k+1
 at':AtP An u s.es s.qs
 mat:MAt u s.rows s.M
 sq:SqM n s.M
 szM:SzM s.M (cb T s.k)
 szq:SzL s.qs (cb T s.k)
 go:F5 A n (n-s.k) (s.k+1) s.M s.qs=Ao A
 bag:Bag m (Cv s.g n s.rows::(s.rows.map Bp++C4 (.slice (some ⟨gO,0,none⟩) (n+1) cO) (List.replicate (n-s.k) zF++s.es)::s.gb))
def Aqh (n j:Nat):gR (List.replicate n 0) j=0:=by
 unfold gR;rw[As7,Avg];split<;>rfl
def Aeb (r:List Rat)(h:i<n):gM (List.replicate n r) i=r:=by
 unfold gM;rw[As7,Avg,if_pos h];rfl
def Mn:Sz 0 1:=Nx (z:=0) fV
def AtP.rep {e:Value}{q:Rat}(h:An u e q)(n:Nat):AtP An u (List.replicate n e) (List.replicate n q):=by
 refine⟨mV,fun j x d=>?_⟩;rw[Avg]at d⊢;split at d
 ·rename_i hlt;simp only[Atd]at d;subst d;exact⟨e,by rw[if_pos hlt],h⟩
 cases d
def Amm {T:Nat}(h:Bw u v (Bq A))(hs:Sq A)(h4:A.length<=6)(hT:T<=3\/A.length<=4/\T<=400)(hA:∀ r∈A,SzL r T) :
 Fn0 prog 52 [v] u fun v' u'=>Bn u' v' (Ao A)/\SzL (Ao A) (cb T A.length):=by
 obtain⟨a,c,rfl⟩:=h.opn;rw[Ba]at h⊢;have dy:∀ r∈A,r.length=A.length:=hs.row;refine Fn0.o func52<|G.l (ι:=Nat×List Value×(Option Addr×Nat×Nat)) (fun i=>[(3,iV A.length),(4,sV i.2.2.1 i.2.2.2.1 i.2.2.2.2),(20,sV a A.length c),(21,iV A.length),(22,iV i.1)]) (fun _=>[])
  (fun i u' m'=>i.1<=A.length/\AtP Bn u' i.2.1 (A.take i.1)/\Ae PH.mt m' (.slice i.2.2.1 i.2.2.2.1 i.2.2.2.2) 123 1 i.2.1)
  (fun i=>A.length-i.1) (0,[],(none,0,0)) ⟨Atu _,AtP.nil,Ae.nil _ _ _⟩ ?_
 rintro J ⟨k,Ir,⟨a2,n2,c2⟩⟩ hJ u2 m2 l2 ⟨hk,hF,bt⟩;simp only at hk hF bt hJ;have dl:=hF.1;rw[Atm]at dl;by_cases dt:k<A.length
 ·refine G.lT k A.length ?_;have ec:A[k]?=some A[k]:=As5 dt;have ci:=Ath dt;obtain⟨ba,oa,a3,c3,rfl,e3,s3⟩:=(h.mono l2).row (Es ec);rw[Ata]at e3 s3;refine G.a ba oa A.length c k 1 oV<|G.lU none ba (oa+k*1) _ e3<|G.c call117 (Qe s3 (hs.tx _ ci) (by rw[dy _ ci];omega)) ?_;intro v4 u4 l4 k4;obtain⟨a4,c4,rfl⟩:=k4.lp.opn;refine G.B 123 1 24 (.slice none 0 0) [.slice a4 A[k].length c4] (G5 _ _ _) ?_;intro g6 u6 l6 e6;refine G.append 123 1 24 (.slice none 0 0) PH.mt Ir [.slice a4 A[k].length c4] (.slice a2 n2 c2) g6 0 1 1 kV rfl rfl oV bt e6 (G5 _ _ _) rfl oV oV oV ?_;intro v7 m7 db;obtain⟨a7,c7,rfl⟩:=db.shape;refine G.i k<|G.b (hJ (k+1,Ir++[Value.slice a4 A[k].length c4],(a7,(Ir++[Value.slice a4 A[k].length c4]).length,c7)) _ _ _ cV ((l2.trans l4).trans l6) ⟨dV,?_,db⟩ dV);dsimp only;rw[At0,ec];exact (hF.mono (fun _ _ h=>h.mono (l4.trans l6))).snoc (k4.mono l6)
 obtain rfl:k=A.length:=oV;rw[At9]at hF;refine G.lF A.length A.length<|G.give PH.mt Ir _ kV bt (fun _=>.inl rfl) ?_;intro u3 l3 bu;have du:Ir.length=A.length:=by rw[hF.1]
 obtain⟨_,_,e0⟩:=bu.opn;simp only[Value.slice.injEq]at e0;obtain⟨rfl,rfl,rfl⟩:=e0;rw[du]at bu⊢;have f0:Ul u3 (.slice a2 A.length c2) A:=⟨Ir,bu,hF.mono (fun _ _ h=>h.mono l3)⟩;clear bu hF bt hJ du dl;generalize hN:A.length=n at *
 refine G.i n<|G.make 103 4 64 zF (n+1) kV rfl rfl oV oV oV ?_;rintro v4 m4 ct ⟨aO,rfl⟩;obtain⟨P,rfl,_⟩:=ct.some';refine G.c call56 (Dk (z:=1) oV oV) ?_;intro v5 u5 l5 k5;obtain⟨f5,rfl⟩:=k5.opF;refine G.a P 0 (n+1) (n+1) n 4 oV<|G.storeA 4 PH.mt _ P (n+1) (n+1) n (fv f5) kV ct mV rfl rfl ?_;intro m6 cu;have bg:(List.replicate (n+1) zF).set n (fv f5)=List.replicate n zF++[fv f5]:=by
  rw[Ayv,Awm _ _ mV];simp
 rw[bg]at cu;refine G.make 123 1 24 (.slice none 0 0) n kV rfl rfl oV oV oV ?_;rintro v7 m7 cq ⟨aM,rfl⟩;obtain⟨ab,rfl,_⟩:=cq.some';have di:Bag m6 [C4 (.slice (some ⟨P,0,none⟩) (n+1) (n+1)) (List.replicate n zF++[fv f5])]:=⟨PH.mt,cu,trivial⟩;have dj:Bag m7 (Cv ab n (List.replicate n E1)::((List.replicate n E1).map Bp++[C4 (.slice (some ⟨P,0,none⟩) (n+1) (n+1)) (List.replicate n zF++[fv f5])])):=by
  refine (di.nils n).add (x:=Cv ab n (List.replicate n E1)) ?_;rw[Hz,Aw5];exact cq
 clear ct cu cq di;refine G.l (ι:=Nat×List (Value×List Value)) (fun i=>[(3,iV n),(4,sV a2 n c2),(7,sV (some ⟨P,0,none⟩) (n+1) (n+1)),(8,sV (some ⟨ab,0,none⟩) n n),(42,iV n),(43,iV i.1)]) (fun _=>[])
  (fun i u' m'=>i.1<=n/\i.2.length=n/\(∀ j r,i.2[j]?=some r->if j<i.1 then AtP An u' r.2 (List.replicate n 0) else r=E1)/\Bag m' (Cv ab n i.2::(i.2.map Bp++[C4 (.slice (some ⟨P,0,none⟩) (n+1) (n+1)) (List.replicate n zF++[fv f5])])))
  (fun i=>n-i.1) (0,List.replicate n E1)
  ⟨Atu _,mV,fun j r hj=>by rw[if_neg (Nat.not_lt_zero _)];exact Av2 (Ato hj),dj⟩ ?_
 rintro J2 ⟨i,rows⟩ co u8 m8 l8 ⟨hi,Q,af,O⟩;simp only at hi Q af O co;by_cases ch:i<n
 ·refine G.lT i n<|G.c call56 (Dk (z:=0) oV oV) ?_;intro v9 u9 l9 k9;obtain⟨f9,rfl⟩:=k9.opF;refine G.B 103 4 64 zF [fv f9] (Rc f9) ?_;intro da cd a6 ep;have f2:Ad cd (.slice (some ⟨da,0,none⟩) 1 1) 4 [fv f9]:=⟨_,1,rfl,Atb _,fun j e hj=>⟨da,0,rfl,ep j e hj⟩⟩;refine G.callO _ _ kV call118 (Ak8 (n:=n) f2 (Rc f9) oV) ?_;intro ek fl fu am ce dp;have b3:=ce.join dp;obtain⟨bp,br,rfl⟩:=ce.shape;rw[Aur]at b3⊢;have K:rows[i]?=some E1:=by
   have hx:=af i rows[i] (As5 oV);rw[if_neg oV]at hx;rw[As5 oV,hx]
  obtain⟨m0,al,a1⟩:=O.focus (i+1) (Gx K);have fd:m0=m8:=by
   rcases al.2 with ⟨_,_,e⟩|⟨_,_,_,_,_,e,_⟩
   ·exact e.symm
   simp[Bp,E1]at e
  subst fd;have F:=a1 (Bp (.slice bp n br,List.replicate n (fv f9))) _ b3;rw[X9 oV]at F;obtain⟨d4,bj,ak⟩:=F.focus 0 rfl;rw[Hz]at bj;refine G.a ab 0 n n i 1 ch<|G.storeA 1 d4 _ ab n n i (.slice bp n br) kV bj (by simp[Q,ch]) rfl rfl ?_;intro d6 bk;have Y:=ak (Cv ab n (rows.set i (.slice bp n br,List.replicate n (fv f9)))) d6 (by
   rw[Hz,Axb];exact bk)
  refine G.i i<|G.b (co (i+1,rows.set i (.slice bp n br,List.replicate n (fv f9))) _ _ _ cV (((l8.trans l9).trans a6).trans am) ⟨dV,by dsimp only;simp[Q],?_,Y⟩ dV);intro j r hj;dsimp only at hj⊢;rw[Au5]at hj;by_cases e:i=j
  ·subst e;rw[if_pos rfl,if_pos oV]at hj;simp only[Atd]at hj;rw[if_pos oV,<-hj];exact AtP.rep (k9.mono (a6.trans am)) n
  rw[if_neg e]at hj;have:=af j r hj;by_cases dr:j<i
  ·rw[if_pos dr]at this;rw[if_pos oV];exact this.mono (fun _ _ h=>h.mono ((l9.trans a6).trans am))
  rw[if_neg dr]at this;rw[if_neg oV];exact this
 obtain rfl:i=n:=oV;refine G.lF i i ?_;have cg:MAt u8 rows (List.replicate i (List.replicate i 0)):=⟨by simp[Q],fun j r hj=>by
  have ds:j<i:=by
   rcases At8 j rows.length with h'|h'
   ·omega
   rw[Att h']at hj;cases hj
  rw[Aeb _ ds];have:=af j r hj;rw[if_pos ds]at this;exact this⟩
 have ez:∀ i j,i<A.length->j<(gM A i).length->Sz (gR (gM A i) j) T:=fun i j I V=>by
  have hm:gM A i∈A:=by rw[Rd I];exact Ath I
  exact (hA _ hm).at V
 have cm:∀ i,i<A.length->(gM A i).length=A.length:=fun i I=>by rw[Rd I,hN];exact dy _ (Ath I)
 have one:((1:Int):Rat)=1:=fV;have zero:((0:Int):Rat)=0:=fV;rw[one]at k5;have bc:Ar5 u8 m8 i T P (i+1) A ⟨0,ab,rows,List.replicate i (List.replicate i 0),[fv f5],[1],[]⟩:=by
  refine⟨Atu _,rfl,?_,cg,⟨mV,fun j hj=>by rw[Aeb _ hj];simp⟩,fun a b I V=>?_,fun q hq=>?_,?_,O⟩
  ·exact AtP.snoc (es:=[]) (xs:=[]) AtP.nil (k5.mono l8)
  ·simp only[Aur]at I;rw[Aeb _ I,Aqh];exact Mn
  ·simp at hq;subst hq;exact Nx (z:=1) fV
  simp only[Awx,Aud];unfold Ao;rw[hN]
 refine G.l (ι:=St) (fun s=>[(3,iV i),(4,sV a2 i c2),(7,sV (some ⟨P,0,none⟩) (i+1) (i+1)),(8,sV (some ⟨s.g,0,none⟩) i i),(10,iV (s.k+1:Nat))]) (fun _=>[])
  (fun s u' m'=>Ar5 u' m' i T P (i+1) A s) (fun s=>i-s.k) ⟨0,ab,rows,List.replicate i (List.replicate i 0),[fv f5],[1],[]⟩ bc ?_
 clear bc cg O af Q co dj;generalize i=n at *
 rintro J3 ⟨k,gl,bn,M,es,qs,gb⟩ dd u9 m9 l9 ⟨f8,dx,au,ao,ax,ai,aa,bw,O⟩;simp only at f8 dx au ao ax ai aa bw O dd;have dm:=au.1;by_cases f7:k<n
 ·refine G.kT (k+1:Nat) n ?_;obtain⟨B,hB⟩:∃ B,B=cb T k:=⟨_,rfl⟩;have ft:B<=8000000000:=by rw[hB];exact Ask h4 f7 hT
  have g0:T<=400:=oV;have dc:cb T (k+1)=72*B+36*T+86:=by rw[hB];rfl
  rw[<-hB]at ai aa;obtain⟨eo,f4,cw⟩:=au.at (j:=0) oV;rw[<-Gd oV]at cw;obtain⟨fo,rfl⟩:=cw.opF;have ea:Sz (gR qs 0) B:=aa.at oV;refine G.l (ι:=Nat×List (Value×List Value)×List (List Rat)) (fun j=>[(3,iV n),(4,sV a2 n c2),(7,sV (some ⟨P,0,none⟩) (n+1) (n+1)),(8,sV (some ⟨gl,0,none⟩) n n),(10,iV (k+1:Nat)),(60,iV n),(61,iV j.1)]) (fun _=>[])
   (fun j u' m'=>j.1<=n/\MAt u' j.2.1 j.2.2/\SqM n j.2.2/\SzM j.2.2 (2*B+1)/\(∀ a b,j.1<=a->a<n->b<n->Sz (gR (gM j.2.2 a) b) B)/\E3 (gR qs 0) (n-j.1) j.1 j.2.2=E3 (gR qs 0) n 0 M/\Bag m' (Cv gl n j.2.1::(j.2.1.map Bp++C4 (.slice (some ⟨P,0,none⟩) (n+1) (n+1)) (List.replicate (n-k) zF++es)::gb)))
   (fun j=>n-j.1) (0,bn,M)
   ⟨Atu _,ao,ax,ai.mono oV,fun a b _ I V=>ai a b (by rw[ax.1];exact I) (by rw[ax.2 a I];exact V),rfl,O⟩ ?_
  rintro J4 ⟨i,rows,M'⟩ cp cd d5 a6 ⟨hi,H,f,ah,aq,b9,E⟩;simp only at hi H f ah aq b9 E cp;have Q:rows.length=n:=by rw[H.1,f.1]
  by_cases d:i<n
  ·refine G.lT i n ?_;obtain⟨⟨rv,aj⟩,K,aw⟩:=H.at (i:=i) oV;have a5:aj.length=n:=by have:=aw.1;rw[f.2 i d]at this;exact this
   obtain⟨gr,cr,e⟩:=E.ptr (i+1) (Gx K) (by intro e;simp only[Bp]at e;rw[e]at a5;simp at a5;omega);simp only[Bp]at e;rw[a5]at e;subst e;obtain⟨e1,bb,Z⟩:=aw.at (j:=i) (by rw[f.2 i d];exact d);rw[<-Gd (by rw[f.2 i d];exact d)]at Z;obtain⟨f1,rfl⟩:=Z.opF;have c1:ElP d5 gl (0+i*1) (.slice (some ⟨gr,0,none⟩) n cr):=E.el 0 (x:=Cv gl n rows) rfl rfl (by show (rows.map (·.1))[i]?=_;rw[Aty,K];rfl);have bf:ElP d5 gr (0+i*4) (fv f1):=E.el (i+1) (Gx K) rfl bb;have fe:ElP d5 P (0+(n-k)*4) (fv fo):=E.el (n+1+0) (Ig Q rfl) rfl (by show (List.replicate (n-k) zF++es)[n-k]?=_;rw[At1 mV];simpa using f4);refine G.a gl 0 n n i 1 d<|G.lM none gl (0+i*1) _ c1<|G.a gl 0 n n i 1 d<|G.lM none gl (0+i*1) _ c1<|G.a gr 0 n cr i 4 d<|G.lM (some 4) gr (0+i*4) _ bf<|G.s n (k+1:Nat) ((n-(k+1):Nat):Int)<|G.p ((n-(k+1):Nat):Int) 1 ((n-k:Nat):Int)<|G.a P 0 (n+1) (n+1) (n-k) 4 oV<|G.lM (some 4) P (0+(n-k)*4) _ fe ?_;have dz:=aq i i (Atb _) d d;refine G.c call57 (D4 Z (cw.mono a6) (dz.mono oV) (ea.mono oV)) ?_;intro ek fl am ee;obtain⟨b0,rfl⟩:=ee.opF;have e4:Sz (gR (gM M' i) i+gR qs 0) (2*B+1):=(Fx dz ea).mono oV;obtain⟨m0,hx,a1⟩:=E.focus (i+1) (Gx K);rw[Wt]at hx;refine G.a gr 0 n cr i 4 d<|G.storeA 4 m0 aj gr n cr i (fv b0) kV hx oV rfl rfl ?_;intro d6 bk;have F:=a1 (Bp (.slice (some ⟨gr,0,none⟩) n cr,aj.set i (fv b0))) d6 bk;rw[X9 oV]at F;have bz:(rows.set i (.slice (some ⟨gr,0,none⟩) n cr,aj.set i (fv b0))).map (·.1)=rows.map (·.1):=by
    rw[Axb];apply Awe;intro j;rw[Au5];split
    ·rename_i e;subst e;rw[if_pos gV,Aty,K];rfl
    rfl
   refine G.i i ?_;have dq:∀ a b,gR (gM (M'.set i ((gM M' i).set i (gR (gM M' i) i+gR qs 0))) a) b=if i=a then (if i=b then gR (gM M' i) i+gR qs 0 else gR (gM M' i) b) else gR (gM M' a) b:=by
    intro a b;rw[Ux (by rw[f.1];exact d)];by_cases e:i=a
    ·rw[if_pos e,if_pos e,Yb (by rw[f.2 i d];exact d)]
    rw[if_neg e,if_neg e]
   have bh:=f.set (i:=i) d (q:=(gM M' i).set i (gR (gM M' i) i+gR qs 0)) (by rw[Avx,f.2 i d]);refine G.b (cp (i+1,rows.set i (.slice (some ⟨gr,0,none⟩) n cr,aj.set i (fv b0)),M'.set i ((gM M' i).set i (gR (gM M' i) i+gR qs 0))) _ _ _ cV (a6.trans am) ⟨dV,?_,bh,?_,?_,?_,?_⟩ dV)
   ·exact (H.mono am).set oV ((aw.mono (fun _ _ h=>h.mono am)).set i ee)
   ·intro a b I V;dsimp only at I V⊢;rw[bh.1]at I;rw[bh.2 a I]at V;rw[dq];split
    ·split
     ·exact e4
     exact ah i b (by rw[f.1];exact d) (by rw[f.2 i d];exact V)
    exact ah a b (by rw[f.1];exact I) (by rw[f.2 a I];exact V)
   ·intro a b I V h3;dsimp only at I⊢;rw[dq,if_neg oV];exact aq a b oV V h3
   ·dsimp only;rw[<-b9,show n-i=(n-(i+1))+1 by omega,E3]
   dsimp only;have:Cv gl n (rows.set i (.slice (some ⟨gr,0,none⟩) n cr,aj.set i (fv b0)))=Cv gl n rows:=by unfold Cv;rw[bz]
   rw[this];exact F
  obtain rfl:i=n:=oV;refine G.lF i i ?_;rw[Avc,E3]at b9;rw[b9]at H f ah;clear aq cp ai ao ax b9;generalize f3:E3 (gR qs 0) i 0 M=M1 at *
  generalize i=n at *
  have Q:rows.length=n:=by rw[H.1,f.1]
  obtain⟨NB,fy⟩:∃ NB,NB=12*B+6*T+13:=⟨_,rfl⟩;obtain⟨W,hW⟩:∃ W,W=T+(2*B+1)+1:=⟨_,rfl⟩;have b8:=E.nils n;refine G.make 123 1 24 (.slice none 0 0) n kV rfl rfl oV oV oV ?_;rintro ek fi b4 ⟨aN,rfl⟩;obtain⟨gN,rfl,_⟩:=b4.some';have F:Bag fi (Cv gN n (List.replicate n E1)::((List.replicate n E1).map Bp++(Cv gl n rows::(rows.map Bp++C4 (.slice (some ⟨P,0,none⟩) (n+1) (n+1)) (List.replicate (n-k) zF++es)::gb)))):=by
   refine b8.add (x:=Cv gN n (List.replicate n E1)) ?_;rw[Hz,Aw5];exact b4
  clear b8 b4 E;refine G.c call56 (Dk (z:=0) oV oV) ?_;intro g7 g4 bl d3;rw[zero]at d3;obtain⟨eu,rfl⟩:=d3.opF;refine G.l (ι:=Nat×List (Value×List Value)×List (List Rat)×F4×Rat) (fun j=>[(3,iV n),(4,sV a2 n c2),(7,sV (some ⟨P,0,none⟩) (n+1) (n+1)),(8,sV (some ⟨gl,0,none⟩) n n),(10,iV (k+1:Nat)),(12,sV (some ⟨gN,0,none⟩) n n),(13,.p 25001 0),(90,iV n),(91,iV j.1)])
   (fun j=>[(25001,⟨103,fc j.2.2.2.1⟩)])
   (fun j u' m'=>j.1<=n/\j.2.1.length=n/\j.2.2.1.length=j.1/\(∀ x r,j.2.1[x]?=some r->if x<j.1 then AtP An u' r.2 (gM j.2.2.1 x) else r=E1)/\Fb A M1 n (n-j.1) j.1 j.2.2.1 j.2.2.2.2=Fb A M1 n n 0 [] 0/\(∀ x,x<j.1->(gM j.2.2.1 x).length=n)/\SzM j.2.2.1 NB/\Sz j.2.2.2.2 (1+j.1*(NB+1))/\An u' (fv j.2.2.2.1) j.2.2.2.2 /\
    Bag m' (Cv gN n j.2.1::(j.2.1.map Bp++(Cv gl n rows::(rows.map Bp++C4 (.slice (some ⟨P,0,none⟩) (n+1) (n+1)) (List.replicate (n-k) zF++es)::gb)))))
   (fun j=>n-j.1) (0,List.replicate n E1,[],eu,0)
   ⟨Atu _,mV,rfl,fun x r hx=>by rw[if_neg (Nat.not_lt_zero _)];exact Av2 (Ato hx),rfl,fun x hx=>absurd hx (Nat.not_lt_zero _),fun a b I _=>absurd I (Nat.not_lt_zero _),Mn.mono oV,d3,F⟩ ?_
  clear F;rintro J5 ⟨i,t,N,tr,d8⟩ df fm g3 ay ⟨hi,av,b5,ac,bx,cs,bi,ag,d2,Y⟩;simp only at hi av b5 ac bx cs bi ag d2 Y df;have g1:PH.le cd fm:=bl.trans ay;by_cases d:i<n
  ·refine G.lT i n ?_;have dv:t[i]?=some E1:=by
    have hx:=ac i t[i] (As5 oV);rw[if_neg oV]at hx;rw[As5 oV,hx]
   have d1:t.set i E1=t:=by
    apply Awe;intro x;rw[Au5];split
    ·rename_i e;subst e;rw[if_pos oV,dv]
    rfl
   refine G.l (ι:=Nat×(Option Addr×Nat×Nat)×List Value×List Rat) (fun j=>[(3,iV n),(4,sV a2 n c2),(7,sV (some ⟨P,0,none⟩) (n+1) (n+1)),(8,sV (some ⟨gl,0,none⟩) n n),(10,iV (k+1:Nat)),(12,sV (some ⟨gN,0,none⟩) n n),(13,.p 25001 0),(90,iV n),(91,iV i),(14,iV i),(94,iV n),(95,iV j.1)])
    (fun j=>[(25001,⟨103,fc tr⟩)])
    (fun j u' m'=>j.1<=n/\j.2.2.2.length=j.1/\AtP An u' j.2.2.1 j.2.2.2/\Eg (gM A i) M1 n (n-j.1) j.1 j.2.2.2=Eg (gM A i) M1 n n 0 []/\SzL j.2.2.2 NB /\
     Bag m' (Cv gN n (t.set i (.slice j.2.1.1 j.2.1.2.1 j.2.1.2.2,j.2.2.1))::((t.set i (.slice j.2.1.1 j.2.1.2.1 j.2.1.2.2,j.2.2.1)).map Bp++(Cv gl n rows::(rows.map Bp++C4 (.slice (some ⟨P,0,none⟩) (n+1) (n+1)) (List.replicate (n-k) zF++es)::gb)))))
    (fun j=>n-j.1) (0,(none,0,0),[],[])
    ⟨Atu _,rfl,AtP.nil,rfl,fun q hq=>absurd hq mV,by dsimp only;rw[show ((Value.slice none 0 0,([]:List Value)):Value×List Value)=E1 from rfl,d1];exact Y⟩ ?_
   rintro J6 ⟨j,⟨ca,cn,cc⟩,D,L⟩ dg fp d7 a8 ⟨hj,bv,ae,c0,ap,C⟩;simp only at hj bv ae c0 ap C dg;have cv:D.length=j:=by rw[ae.1,bv]
   have K:(t.set i (.slice ca cn cc,D))[i]?=some (.slice ca cn cc,D):=by rw[Au5,if_pos rfl,if_pos oV]
   have dk:cn=D.length:=by
    obtain⟨_,_,e⟩:=C.shape (i+1) (Gx K);simp only[Bp,Value.slice.injEq]at e;exact e.2.1
   have be:(t.set i (.slice ca cn cc,D)).length=n:=by simp[av]
   have cy:ElP d7 gN (0+i*1) (.slice ca cn cc):=C.el 0 (x:=Cv gN n _) rfl rfl (by show (List.map _ _)[i]?=_;rw[Aty,K];rfl);by_cases an:j<n
   ·refine G.lT j n<|G.c call56 (Dk (z:=0) oV oV) ?_;intro em ej U ad;rw[zero]at ad;obtain⟨X,rfl⟩:=ad.opF;refine G.l (ι:=Nat×F4×Rat) (fun x=>[(3,iV n),(4,sV a2 n c2),(7,sV (some ⟨P,0,none⟩) (n+1) (n+1)),(8,sV (some ⟨gl,0,none⟩) n n),(10,iV (k+1:Nat)),(12,sV (some ⟨gN,0,none⟩) n n),(13,.p 25001 0),(90,iV n),(91,iV i),(14,iV i),(94,iV n),(95,iV j),(15,iV j),(16,.p 32001 0),(99,iV n),(100,iV x.1)])
     (fun x=>[(25001,⟨103,fc tr⟩),(32001,⟨103,fc x.2.1⟩)])
     (fun x u' m'=>x.1<=n/\Ix (gM A i) M1 j (n-x.1) x.1 x.2.2=Ix (gM A i) M1 j n 0 0/\Sz x.2.2 (1+x.1*W)/\An u' (fv x.2.1) x.2.2/\m'=d7)
     (fun x=>n-x.1) (0,X,0)
     ⟨Atu _,rfl,Mn.mono oV,ad,rfl⟩ ?_
    rintro J7 ⟨x,sm,ei⟩ dh fq bo bm ⟨hx,c5,ar,c6,rfl⟩;simp only at hx c5 ar c6 dh;have g2:x*W<=6*W:=Ats _ oV;by_cases a0:x<n
    ·refine G.lT x n ?_;have fb:PH.le u3 fq:=l5.trans (l8.trans (l9.trans (a6.trans (bl.trans (ay.trans (a8.trans (U.trans bm)))))));obtain⟨b1,o1,b2,o2,c3,fa,rfl,d9,et,ex⟩:=(f0.mono fb).cell (i:=i) (j:=x) oV (by rw[cm i oV];omega);rw[cm i oV,hN]at d9;refine G.a b1 o1 n c2 i 1 d<|G.lU none b1 (o1+i*1) _ d9<|G.a b2 o2 n c3 x 4 a0<|G.lU (some 4) b2 (o2+x*4) _ et ?_;obtain⟨⟨rv,aj⟩,d0,aw⟩:=H.at (i:=x) oV;have a5:aj.length=n:=by have:=aw.1;rw[f.2 x a0]at this;exact this
     obtain⟨gr,cr,e⟩:=C.ptr (n+1+(x+1)) (Ig be (Gx d0)) (by intro e;simp only[Bp]at e;rw[e]at a5;simp at a5;omega);simp only[Bp]at e;rw[a5]at e;subst e;obtain⟨e1,bb,Z⟩:=aw.at (j:=j) (by rw[f.2 x a0];exact an);rw[<-Gd (by rw[f.2 x a0];exact an)]at Z;obtain⟨f1,rfl⟩:=Z.opF;have c1:ElP bo gl (0+x*1) (.slice (some ⟨gr,0,none⟩) n cr):=C.el (n+1+0) (x:=Cv gl n rows) (Ig be rfl) rfl (by show (rows.map (·.1))[x]?=_;rw[Aty,d0];rfl);have bf:ElP bo gr (0+j*4) (fv f1):=C.el (n+1+(x+1)) (Ig be (Gx d0)) rfl bb;refine G.a gl 0 n n x 1 a0<|G.lM none gl (0+x*1) _ c1<|G.a gr 0 n cr j 4 an<|G.lM (some 4) gr (0+j*4) _ bf ?_;have e5:=ez i x oV (by rw[cm i oV];omega);have e8:=ah x j (by rw[f.1];exact a0) (by rw[f.2 x a0];exact an);have e9:=Zc e5 e8;refine G.c call42 (L5 ex (Z.mono (bl.trans (ay.trans (a8.trans (U.trans bm))))) (e5.mono oV) (e8.mono oV)) ?_;intro g9 fr az eg;obtain⟨fx,rfl⟩:=eg.opF;refine G.c call57 (D4 (c6.mono az) eg (ar.mono oV) (e9.mono oV)) ?_;intro fs g5 fh eh;obtain⟨ew,rfl⟩:=eh.opF;refine G.i x<|G.b (dh (x+1,ew,ei+gR (gM A i) x*gR (gM M1 x) j) _ _ _ cV ((bm.trans az).trans fh) ⟨dV,?_,?_,eh,rfl⟩ dV)
     ·dsimp only;rw[<-c5,show n-x=(n-(x+1))+1 by omega,Ix]
     dsimp only;refine (Fx ar e9).mono ?_;have e:=Nat.succ_mul x W;simp only[Nat.succ_eq_add_one]at e;omega
    obtain rfl:x=n:=oV;refine G.lF x x ?_;rw[Avc,Ix]at c5;have cj:Sz ei NB:=ar.mono oV;rw[c5]at cj c6;subst dk;refine G.a gN 0 x x i 1 d<|G.lM none gN (0+i*1) _ cy<|G.B 103 4 64 zF [fv sm] (Rc sm) ?_;intro ey fr az er;obtain⟨m0,al,a1⟩:=C.focus (i+1) (Gx K);rw[Wt]at al;refine G.append 103 4 64 zF m0 D [fv sm] (.slice ca D.length cc) ey 0 1 1 kV rfl rfl oV al er (Rc sm) rfl oV oV oV ?_;intro fs fj cl;obtain⟨bq,bs,rfl⟩:=cl.shape;have b6:=a1 (Bp (.slice bq (D++[fv sm]).length bs,D++[fv sm])) fj cl;rw[X9 oV]at b6;obtain⟨d4,bj,ak⟩:=b6.focus 0 rfl;rw[Hz]at bj;refine G.a gN 0 x x i 1 d<|G.storeA 1 d4 _ gN x x i (.slice bq (D++[fv sm]).length bs) kV bj (by simp[av,d]) rfl rfl ?_;intro fk ed;have b7:=ak (Cv gN x ((t.set i (.slice ca D.length cc,D)).set i (.slice bq (D++[fv sm]).length bs,D++[fv sm]))) fk (by
     rw[Hz,Axb];exact ed)
    rw[Avj,A00]at b7;refine G.i j<|G.b (dg (j+1,(bq,(D++[fv sm]).length,bs),D++[fv sm],L++[Ix (gM A i) M1 j x 0 0]) _ _ _ cV (((a8.trans U).trans bm).trans az) ⟨dV,by dsimp only;simp[bv],?_,?_,?_,b7⟩ dV)
    ·exact (ae.mono (fun _ _ h=>h.mono ((U.trans bm).trans az))).snoc (c6.mono az)
    ·dsimp only;rw[<-c0,show x-j=(x-(j+1))+1 by omega,Eg]
    intro q hq;rcases Ati.1 hq with hq|hq
    ·exact ap q hq
    simp at hq;subst hq;exact cj
   obtain rfl:j=n:=oV;refine G.lF j j ?_;rw[Avc,Eg]at c0;subst dk;obtain⟨gr,cr,e⟩:=C.ptr (i+1) (Gx K) (by intro e;simp only[Bp]at e;rw[e]at cv;simp at cv;omega);simp only[Bp,Value.slice.injEq]at e;obtain⟨rfl,_,rfl⟩:=e;rw[cv]at cy;obtain⟨e1,bb,Z⟩:=ae.at (j:=i) oV;rw[<-Gd oV]at Z;obtain⟨f1,rfl⟩:=Z.opF;have bf:ElP d7 gr (0+i*4) (fv f1):=C.el (i+1) (Gx K) rfl bb;refine G.a gN 0 j j i 1 d<|G.lM none gN (0+i*1) _ cy<|G.a gr 0 j cc i 4 d<|G.lM (some 4) gr (0+i*4) _ bf ?_;have e7:Sz (gR L i) NB:=ap.at oV;have f6:i*(NB+1)<=6*(NB+1):=Ats _ oV;refine G.c call57 (D4 (d2.mono a8) Z (ag.mono oV) (e7.mono oV)) ?_;intro em ej U ad;obtain⟨X,rfl⟩:=ad.opF;refine G.i i ?_;have cx:∀ x,gM (N++[L]) x=if x<i then gM N x else if x=i then L else []:=by
    intro x;unfold gM;rw[As7];by_cases I:x<i
    ·rw[if_pos I,Atl oV,As7]
    rw[if_neg I,At1 oV,b5];by_cases V:x=i
    ·rw[if_pos V,V,Avc];rfl
    rw[if_neg V,Att gV];rfl
   refine G.b (df (i+1,t.set i (.slice (some ⟨gr,0,none⟩) D.length cc,D),N++[L],X,d8+gR L i) _ _ _ cV ((ay.trans a8).trans U) ⟨dV,by dsimp only;simp[av],by dsimp only;simp[b5],?_,?_,?_,?_,?_,ad,C⟩ dV)
   ·intro x r R;dsimp only at R⊢;rw[cx];rw[Au5]at R;by_cases e:i=x
    ·subst e;rw[if_pos rfl,if_pos oV]at R;simp only[Atd]at R;rw[if_pos oV,if_neg oV,if_pos rfl,<-R];exact ae.mono (fun _ _ h=>h.mono U)
    rw[if_neg e]at R;have:=ac x r R;by_cases a9:x<i
    ·rw[if_pos a9]at this;rw[if_pos oV,if_pos a9];exact this.mono (fun _ _ h=>h.mono (a8.trans U))
    rw[if_neg a9]at this;rw[if_neg oV];exact this
   ·dsimp only;rw[<-bx,show j-i=(j-(i+1))+1 by omega,Fb,<-c0]
   ·intro x hx;dsimp only at hx⊢;rw[cx];by_cases a9:x<i
    ·rw[if_pos a9];exact cs x a9
    rw[if_neg a9,if_pos oV];exact bv
   ·intro x y I V;dsimp only at I V⊢;rw[cx]at V⊢;by_cases a9:x<i
    ·rw[if_pos a9]at V⊢;exact bi x y oV V
    have:x=i:=by simp[b5]at I;omega
    rw[if_neg a9,if_pos this]at V⊢;exact ap.at V
   dsimp only;refine (Fx ag e7).mono ?_;have e:=Nat.succ_mul i (NB+1);simp only[Nat.succ_eq_add_one]at e;omega
  obtain rfl:i=n:=oV;refine G.lF i i ?_;rw[Avc,Fb]at bx;refine G.s i (k+1:Nat) ((i-(k+1):Nat):Int)<|G.neg ((k+1:Nat):Int) (-((k+1:Nat):Int)) kV rfl oV oV<|G.c call56 (Dk (z:=-((k+1:Nat):Int)) oV oV) ?_;intro g8 fp a8 ef;obtain⟨fw,rfl⟩:=ef.opF;have f6:i*(NB+1)<=6*(NB+1):=Ats _ oV;have dw:((-((k+1:Nat):Int):Int):Rat)≠0:=by
   intro e;have:=Rat.intCast_eq_zero_iff.1 e;omega
  have eb:Sz ((-((k+1:Nat):Int):Int):Rat) 1:=Nx oV;refine G.c call39 (Ih (d2.mono a8) ef (ag.mono oV) (eb.mono oV) dw) ?_;intro em ej U ad;obtain⟨X,rfl⟩:=ad.opF;have ff:=Aj0 ag eb dw;obtain⟨m0,al,a1⟩:=Y.focus (i+1+(i+1+0)) (Ig av (Ig Q rfl));rw[H3]at al;refine G.a P 0 (i+1) (i+1) (i-(k+1)) 4 oV<|G.storeA 4 m0 _ P (i+1) (i+1) (i-(k+1)) (fv X) kV al gV rfl rfl ?_;intro bo ck;have bg:(List.replicate (i-k) zF++es).set (i-(k+1)) (fv X)=List.replicate (i-(k+1)) zF++(fv X::es):=by
   rw[show i-k=(i-(k+1))+1 by omega,Ayv,Au1,Awm _ _ mV];simp
  rw[bg]at ck;have C:=a1 (C4 (.slice (some ⟨P,0,none⟩) (i+1) (i+1)) (List.replicate (i-(k+1)) zF++(fv X::es))) bo ck;rw[Abr av,Abr Q]at C;have cz:Bag bo (Cv gN i t::(t.map Bp++C4 (.slice (some ⟨P,0,none⟩) (i+1) (i+1)) (List.replicate (i-(k+1)) zF++(fv X::es))::(Cv gl i rows::(rows.map Bp++gb)))):=by
   refine Bag.perm ?_ C;refine List.Perm.cons _ (List.Perm.append_left _ ?_);rw[Avj];exact (List.Perm.cons _ List.perm_middle).trans (List.Perm.swap _ _ _)
  refine G.p (k+1:Nat) 1 (k+1+1:Nat) ?_;have e2:Fb A M1 i i 0 [] 0=(N,d8):=bx.symm;refine G.b (dd ⟨k+1,gN,t,N,fv X::es,d8/((-((k+1:Nat):Int):Int):Rat)::qs,Cv gl i rows::(rows.map Bp++gb)⟩ _ _ _ cV (((((l9.trans a6).trans bl).trans ay).trans a8).trans U) ⟨dV,by dsimp only;simp[dx],?_,?_,?_,?_,?_,?_,cz⟩ dV)
  ·refine⟨by simp[dm],fun x q c8=>?_⟩;cases x with
   |zero =>
    simp only[List.getElem?_cons_zero,Atd]at c8;subst c8;exact⟨fv X,rfl,ad⟩
   |succ x =>
    simp only[Aya]at c8;obtain⟨e,I,V⟩:=au.2 x q c8;exact⟨e,by simpa using I,V.mono ((((a6.trans bl).trans ay).trans a8).trans U)⟩
  ·refine⟨dV,fun x r R=>?_⟩;dsimp only at R⊢;have fg:x<i:=by
    rcases At8 x t.length with h'|h'
    ·omega
    rw[Att h']at R;cases R
   have:=ac x r R;rw[if_pos fg]at this;exact this.mono (fun _ _ h=>h.mono (a8.trans U))
  ·exact⟨b5,cs⟩
  ·dsimp only;rw[dc];exact bi.mono oV
  ·intro q hq;dsimp only;rw[dc];rcases At6.1 hq with rfl|hq
   ·exact ff.mono oV
   exact (aa q hq).mono oV
  dsimp only;rw[<-bw,show i-k=(i-(k+1))+1 by omega,F5,f3,e2]
 obtain rfl:k=n:=oV;refine G.kF (k+1:Nat) k ?_;rw[Avc,F5]at bw;have Q:bn.length=k:=by rw[ao.1,ax.1]
 obtain⟨m0,hx,_⟩:=O.take (k+1+0) (Ig Q rfl);rw[H3,Avc,Av3,Ava]at hx;refine G.give m0 es _ kV hx (fun _=>.inl rfl) ?_;intro cd a6 hL;refine G.drop PH.mt kV (PH.mt_le _) ?_;rw[bw]at au aa;exact G.r (.slice (some ⟨P,0,none⟩) (k+1) (k+1)) ⟨rfl,⟨es,hL,au.mono (fun _ _ h=>h.mono a6)⟩,aa⟩
end
section
variable {A:List (List Rat)}{S T T':Nat}{p:List Rat}{u:PH}{v:Value}{x:Rat}
def Nm (A:List (List Rat))(n:Nat):∀ (f k:Nat) (M:List (List Rat)) (d:List Rat),(F5 A n f k M d).length=f+d.length
 |0,_,_,d=>by simp[F5]
 |f+1,k,M,d=>by rw[F5,Nm A n f];simp;omega
def Cw (A:List (List Rat)):(Ao A).length=A.length+1:=by rw[Ao,Nm];rfl
def Q6 (A:List (List Rat))(n:Nat):∀ (f k:Nat) (M:List (List Rat)) (d:List Rat),d≠[]->(F5 A n f k M d).getLast?=d.getLast?
 |0,_,_,d,_=>rfl
 |f+1,k,M,d,h=>by
  rw[F5,Q6 A n f _ _ _ mV];cases d with
  |nil=>exact absurd rfl h
  |cons x l=>rw[List.getLast?_cons_cons]
def Tp (A:List (List Rat)):gR (Ao A) A.length=1:=by
 have h:=Q6 A A.length A.length 1 (List.replicate A.length (List.replicate A.length 0)) [1] mV;rw[show F5 A A.length A.length 1 (List.replicate A.length (List.replicate A.length 0)) [1]=Ao A from rfl,List.getLast?_eq_getElem?,Cw]at h;simp at h;simp[gR,h]
def Aa1 (x:Rat)(i:Nat):∀ (k:Nat) (l:List Rat),k<l.length->gR (I5 x i k l) (l.length-1)=gR l (l.length-1)
 |0,l,_=>rfl
 |k+1,l,h=>by
  unfold I5;split
  ·rfl
  have:=Aa1 x i k (l.set k (gR l k+x*gR l (k+1))) gV;rw[Avx]at this;rw[this,Yb oV,if_neg oV]
def S3 (x:Rat):∀ (f i:Nat) (l:List Rat),l≠[]->gR (F3 x f i l) (l.length-1)=gR l (l.length-1)
 |0,_,l,_=>rfl
 |f+1,i,l,h=>by
  have hp:=Avq.2 h;have:=S3 x f (i+1) (I5 x i (l.length-1) l) (by intro e;have:=Hp x i (l.length-1) l;rw[e]at this;simp at this;omega);rw[Hp]at this;rw[F3,this,Aa1 x i _ l oV]
def Adw {l:List Rat}(h:l≠[])(e:gR l (l.length-1)≠0):zer l<l.length:=by
 have hp:=Avq.2 h;rcases At8 (zer l) l.length with d|d
 ·exact d
 exact absurd (Ac1 oV) e
def Qx (x:Rat)(h:p≠[])(g:gR p (p.length-1)≠0):zer (Fc x p)<p.length:=by
 have d:=Gy x p;have f:=S3 x p.length 0 p h;have:=Adw (l:=Fc x p) (by intro e;rw[e]at d;simp at d;exact h (Auo d.symm)) (by rw[d];unfold Fc;rw[f];exact g);omega
def Amh (A:List (List Rat))(x:Rat):zer (Fc x (Ao A))<(Ao A).length:=by
 refine Qx x (by intro e;have:=Cw A;rw[e]at this;simp at this) ?_;rw[Cw,Avv,Tp];decide
def Md (p:List Rat)(x:Rat)(h:p.length<=7):-20<=C7 p x/\C7 p x<=20:=by
 have d:=Akz (Fc x p);have e:=Aeg (Fc x p);rw[Gy]at d e;unfold C7;omega
def Jd (p:List Rat)(x:Rat)(h:p.length<=7):Co p x<=7:=by
 have d:=Aeg (Fc x p);rw[Gy]at d;unfold Co;omega
def Aft {v y z:Value}{lo hi:Rat}(h:Bn u v p)(m:An u y lo)(n:An u z hi)(j:SzL p S)(D:Sz lo T)(e:Sz hi T)(d:S+T+1<=500000)(g:p.length<=5)(h0:p≠[])(f:gR p (p.length-1)≠0) :
 Fn0 prog 71 [v,y,z] u fun E _=>E=.int .i64 (Au p lo hi):=by
 obtain⟨a,c,rfl⟩:=h.opn;obtain⟨C,rfl⟩:=m.opF;obtain⟨fz,rfl⟩:=n.opF;have F:=Md p lo oV;have H:=Md p hi oV;have I:=Jd p lo oV;have J:=Jd p hi oV;refine Fn0.o func71<|G.c call53 (Aj1 (y:=fv C) h m j D d g (Qx lo h0 f)) ?_;rintro N K t rfl;refine G.c call53 (Aj1 (y:=fv fz) (h.mono t) (n.mono t) j e d g (Qx hi h0 f)) ?_;rintro O L l2 rfl;exact G.add (C7 p hi) (Co p hi:Int) (C7 p hi+(Co p hi:Int)) kV rfl oV oV<|G.sub (C7 p hi+(Co p hi:Int)) (C7 p lo) (C7 p hi+(Co p hi:Int)-C7 p lo) kV rfl oV oV<|G.sub (C7 p hi+(Co p hi:Int)-C7 p lo) (Co p lo:Int) (Au p lo hi) kV rfl (by unfold Au;omega) (by unfold Au;omega)<|G.r _ ⟨rfl,rfl⟩
structure Abg (A:List (List Rat))(T:Nat):Prop where
 sq:Sq A
 sym:Aan A
 le:A.length<=6
 tle:T<=3\/A.length<=4/\T<=400
 sz:∀ r∈A,SzL r T
 light:∃ L K,6*K<=600/\So A L K
structure M2 (A:List (List Rat))(T:Nat):Prop where
 sq:Sq A
 sym:Aan A
 le:A.length<=4
 tle:T<=400
 sz:∀ r∈A,SzL r T
 light:∃ L K,6*K<=600/\So A L K
def M2.w (h:M2 A T):Abg A T:=⟨h.sq,h.sym,by have:=h.le;omega,.inr ⟨h.le,h.tle⟩,h.sz,h.light⟩
def Abg.large (d:Abg A T)(m:D1 u)(h:Bw u v (Bq A)):Fn0 prog 48 [v] u fun n _=>n=.bool false:=by
 obtain⟨L,K,e,f⟩:=d.light;have g:=d.le;exact Aq3 m h d.sq.tx oV (fun r j=>by rw[d.sq.row r j];omega) e f
def M2.large {u:PH}{v:Value}{A:List (List Rat)}{T:Nat}(d:M2 A T)(e:D1 u)(h:Bw u v (Bq A)):Fn0 prog 48 [v] u fun f _=>f=.bool false:=d.w.large e h
def L0 (D:D1 u)(h:Bw u v (Bq A))(d:M2 A T)(z:∀ q∈Ao A,Tx q) :
 Fn0 prog 19 [v] u fun H e=>∃ r,H=.tuple #[r,.int .i64 0]/\Eh e r ((Ao A).map Ap):=by
 have j:=fun (e:PH) (v:Value) (f:Bw e v (Bq A))=>V1 f d.sq d.sym;have n:=fun (e:PH) (v:Value) (t:D1 e) (f:Bw e v (Bq A))=>d.large t f;have m:=fun (e:PH) (v:Value) (f:Bw e v (Bq A))=>Amm f d.sq d.w.le d.w.tle d.sz;obtain⟨a,c,rfl⟩:=h.opn;refine Fn0.o func19<|G.c call46 (j _ _ h) ?_;rintro U O g rfl;refine G.nF 0 0<|G.c call48 (n _ _ (D.mono g) (h.mono g)) ?_;rintro V P l2 rfl;refine G.c call52 (m _ _ (h.mono (g.trans l2))) ?_;rintro W Q F ⟨E,_⟩;obtain⟨I,K,rfl⟩:=E.opn;refine G.c call67 (Ug (D.mono ((g.trans l2).trans F)) E z (by rw[Cw];have:=d.le;omega)) ?_;rintro X R N ⟨r,rfl,C⟩;obtain⟨J,L,rfl⟩:=Ad.opn C;exact G.r _ ⟨rfl,_,rfl,C⟩
structure Na (x:Rat)(n T:Nat):Prop where
 tx:Tx x
 sz:Sz x T
 light:∃ L K,6*K<=600/\So ((List.replicate n x).map fun q=>[q]) L K
def Ai9 (t:List UInt8)(n:Nat):List.replicate n (Value.string (mkS t))=Bo (List.replicate n t):=by simp[Bo]
def Ad6 (ht:D1 u)(h:Bw u v (Bq A))(d:Abg A T)(C:Na x A.length T')(F:SzL (Ao A) (cb T A.length)->SzL (Ao A) S)(H:bd S T' (Lx (A.length+1) (A.length+1))<=1000000000000)(I:T'<=500000) :
 Fn0 prog 12 [v,.string (mkS (Ap x))] u fun v' _=>v'=.tuple #[.int .i64 (C7 (Ao A) x),.int .i64 (Co (Ao A) x:Int),.int .i64 0]:=by
 have J:=fun (g:PH) (v:Value) (f:Bw g v (Bq A))=>V1 f d.sq d.sym;have U:=fun (g:PH) (v:Value) (V:D1 g) (f:Bw g v (Bq A))=>d.large V f;have O:=fun (g:PH) (v:Value) (f:Bw g v (Bq A))=>Amm f d.sq d.le d.tle d.sz;have a0:=d.le;have hz:=Amh A x;have P:=Cw A;obtain⟨L,K,hK,D⟩:=C.light;obtain⟨a,c,rfl⟩:=h.opn;rw[Ba]at h⊢;refine Fn0.o func12<|G.c call46 (J _ _ h) ?_;rintro v1 u1 Y rfl;refine G.nF 0 0<|G.c call47 (Fp C.tx) ?_;rintro v2 u2 l2 rfl;refine G.c call48 (U _ _ (ht.mono (Y.trans l2)) (h.mono (Y.trans l2))) ?_;rintro v3 u3 l3 rfl;refine G.B 34 1 16 (.string (mkS [])) [.string (mkS (Ap x))] (Dp [Ap x]) ?_;intro Z u4 l4 e4;have E:Ad u4 (.slice (some ⟨Z,0,none⟩) 1 1) 1 [.string (mkS (Ap x))]:=⟨_,1,rfl,Atb _,fun j e hj=>⟨Z,0,rfl,e4 j e hj⟩⟩;refine G.c call51 (Ak9 (n:=A.length) E (Dp [Ap x]) oV) ?_;intro v5 u5 l5 W;rw[Ai9]at W;obtain⟨a5,c5,rfl⟩:=Ad.opn W;refine G.c call50 (Ane W (by rw[Aur];omega)) ?_;intro v6 u6 l6 X;have e6:(List.replicate A.length (Ap x)).map (fun t=>[t])=Bq ((List.replicate A.length x).map fun q=>[q]):=by simp[Bq]
 rw[e6]at X;have m:PH.le u u6:=((((Y.trans l2).trans l3).trans l4).trans l5).trans l6;have Q:=fun (v:Value) (f:Bw u6 v (Bq ((List.replicate A.length x).map fun q=>[q])))=>Alg (N:=6) (ht.mono m) f (fun r z q hq=>by
  simp only[Aw5]at z;have:=Av2 z;subst this;simp at hq;subst hq;exact C.tx) gV (fun r z=>by
  simp only[Aw5]at z;have:=Av2 z;subst this;simp) oV hK oV D.den D.pos D.nl D.dig
 obtain⟨a6,c6,rfl⟩:=X.opn;refine G.c call49 (Q _ X) ?_;rintro v7 u7 l7 rfl;have R:=m.trans l7;refine G.c call52 (O _ _ (h.mono R)) ?_;rintro v8 u8 l8 ⟨k8,s8⟩;obtain⟨a8,c8,rfl⟩:=k8.opn;refine G.c call54 (Eq C.tx) ?_;intro v9 u9 l9 k9;obtain⟨f9,rfl⟩:=k9.opF;refine G.c call53 (Amb (k8.mono l9) k9 (F s8) C.sz (by rw[P];exact H) I oV hz) ?_;rintro a3 a2 a1 rfl;exact G.r _ ⟨rfl,rfl⟩
def Aoi (f:D1 u)(h:Bw u v (Bq A))(e:M2 A T)(g:Na x A.length T')(d:cb T A.length+T'+1<=500000) :
 Fn0 prog 12 [v,.string (mkS (Ap x))] u fun j _=>j=.tuple #[.int .i64 (C7 (Ao A) x),.int .i64 (Co (Ao A) x:Int),.int .i64 0]:=Ad6 f h e.w g id (Amk (by have:=e.le;have:=(Rz (n:=A.length+1) oV).2 oV;omega) d) oV
def Asl (m:D1 u)(h:Bw u v (Bq A))(d:M2 A T)(z:Na x A.length T')(e:SzL (Ao A) (cb T A.length)->SzL (Ao A) S)(f:S+T'+1<=500000) :
 Fn0 prog 73 [v,.string (mkS (Ap x))] u fun C _=>C=.tuple #[.int .i64 (C7 (Ao A) x+(Co (Ao A) x:Int)),.bool true]:=by
 have g:=fun (v:Value) (t:Bw u v (Bq A))=>Ad6 m t d.w z e (Amk (by have:=d.le;have:=(Rz (n:=A.length+1) oV).2 oV;omega) f) oV;have j:=d.le;have D:=Md (Ao A) x (by rw[Cw];omega);have E:=Jd (Ao A) x (by rw[Cw];omega);obtain⟨a,c,rfl⟩:=h.opn;refine Fn0.o func73<|G.c call12 (g _ h) ?_;rintro I H F rfl;exact G.add (C7 (Ao A) x) (Co (Ao A) x:Int) (C7 (Ao A) x+(Co (Ao A) x:Int)) kV rfl oV oV<|G.eT' 0 0 rfl<|G.r _ ⟨rfl,rfl⟩
end
end Go.Proofs.YtnafchoihfnkeaaGreatDoor
