/- Parts of one proof, joined by a program. -/
import Derived.Test.YtemmheaocgmebaaGreatDoorR05
import Derived.MapKept
import Derived.Laws.IdiomRangeMap
import Derived.Laws.StructEq
import Derived.ChangeKeysEq
set_option linter.defProp false
set_option linter.unusedVariables false
set_option linter.unusedSimpArgs false
set_option linter.unusedSectionVars false
set_option maxHeartbeats 16000000
namespace Go.Proofs.YtemmheaocgmebaaGreatDoor
open Go.Proofs.Tryz
open Go.RowKit
def A48:=@Nat.le_of_dvd
def Ba6:=@Nat.one_dvd
def Ba7:=@Nat.lcm_dvd
def A74:=@Nat.dvd_trans
def A78:=@Nat.dvd_lcm_left
def A1i:=@List.map_append
def A79:=@Nat.min_le_right
def A4s:=@Array.eq_empty_of_size_eq_zero
def Baj:=@Int.tmod_lt_of_pos
def Bak:=@Int.lt_tmod_of_pos
def A7r:=@List.getElem?_cons_succ
def A4z:=@Bool.false_eq_true
def A7m:=@List.map_nil
def A3d:=@List.mem_iff_getElem
def A6u:=@Array.getElem?_toList
def A8c:=@Array.getElem?_modify
def A9v:=@UInt8.lt_iff_toNat_lt
def A6z:=@Prod.ext
def A8y:=@List.pairwise_cons
def A31:=@List.getElem?_range
section
variable {c j n sz:Nat}{e v:Value}{es:List Value}
section lists
variable {α:Type} {R:PH->Value->α->Prop} {u u':PH}
def AtP (R:PH->Value->α->Prop)(u:PH)(es:List Value)(xs:List α):Prop:=es.length=xs.length/\∀ (j:Nat) (x:α),xs[j]?=some x->∃ e,es[j]?=some e/\R u e x
def AtP.nil:AtP R u [] []:=⟨rfl,fun j x h=>by simp at h⟩
def AtP.mono {xs:List α}(t:∀ e x,R u e x->R u' e x)(h:AtP R u es xs):AtP R u' es xs :=
 ⟨h.1,fun j x z=>by obtain⟨e,g,m⟩:=h.2 j x z;exact⟨e,g,t e x m⟩⟩
theorem AtP.snoc {xs:List α}{x:α}(h:AtP R u es xs)(E:R u e x):AtP R u (es++[e]) (xs++[x]):=by
 refine⟨by simp[h.1],fun j r g=>?_⟩;by_cases m:j<xs.length
 ·rw[A1r m]at g;obtain⟨t,z,C⟩:=h.2 j r g;exact⟨t,by rw[A1r (by rw[h.1];exact m)];exact z,C⟩
 rw[A18 oV]at g;have:j-xs.length=0:=by grind
 rw[this]at g;simp at g;subst g;refine⟨e,?_,E⟩;rw[A18 (by rw[h.1];omega),h.1,this];rfl
def AtP.set {xs:List α}{x:α}(h:AtP R u es xs)(k:Nat)(m:R u e x):AtP R u (es.set k e) (xs.set k x):=by
 refine⟨by simp[h.1],fun j r g=>?_⟩;rw[A1z]at g⊢;split at g
 ·rename_i e';subst e';split at g
  ·rename_i hlt;simp only[A1f]at g;subst g;exact⟨e,by rw[if_pos rfl,if_pos (by rw[h.1];exact hlt)],m⟩
  cases g
 rename_i e';rw[if_neg e'];exact h.2 j r g
def LP (R:PH->Value->α->Prop)(sz:Nat)(u:PH)(v:Value)(xs:List α):Prop:=∃ es,Ac u v sz es/\AtP R u es xs
def LP.mono {sz:Nat}{v:Value}{xs:List α}(t:∀ e x,R u e x->R u' e x)(h:LP R sz u v xs)(z:PH.le u u'):LP R sz u' v xs:=by
 obtain⟨es,g,m⟩:=h;exact⟨es,g.mono z,m.mono t⟩
def LP.opn {sz:Nat}{v:Value}{xs:List α}(h:LP R sz u v xs):∃ a c,v=.slice a xs.length c:=by
 obtain⟨es,g,m⟩:=h;obtain⟨a,c,rfl⟩:=g.opn;exact⟨a,c,by rw[m.1]⟩
def LP.at {a:Option Addr}{xs:List α}(h:LP R sz u (.slice a n c) xs){x:α}(E:xs[j]?=some x):∃ b off e,a=some ⟨b,off,none⟩/\ElP u b (off+j*sz) e/\R u e x:=by
 obtain⟨es,z,C⟩:=h;obtain⟨e,g,m⟩:=C.2 j x E;obtain⟨b,off,rfl,t⟩:=z.at' g;exact⟨b,off,e,rfl,t,m⟩
end lists
def Y6 (u:PH)(v:Value)(zs:List Int):Prop:=LP Bi 2 u v zs
def Nl (u:PH)(v:Value)(zs:List (List Int)):Prop:=LP Y6 1 u v zs
def Aeq (u:PH)(v:Value)(qs:List (List Rat)):Prop:=LP F6 1 u v qs
def Y6.mono {u u':PH}{v:Value}{zs:List Int}(h:Y6 u v zs)(g:PH.le u u'):Y6 u' v zs:=LP.mono (fun _ _ h=>h.mono g) h g
def Nl.mono {u u':PH}{v:Value}{zs:List (List Int)}(h:Nl u v zs)(g:PH.le u u'):Nl u' v zs:=LP.mono (fun _ _ h=>h.mono g) h g
def Aeq.mono {u u':PH}{v:Value}{zs:List (List Rat)}(h:Aeq u v zs)(g:PH.le u u'):Aeq u' v zs:=LP.mono (fun _ _ h=>h.mono g) h g
def F6.lp {u:PH}{g:List Rat}(h:F6 u v g):LP Bg 4 u v g:=h
def Bi.ok {u:PH}{q:Int}(h:Bi u e q):A9 2 [e]:=by
 obtain⟨b,a,n,c,rfl⟩:=h.opn;intro x g;simp at g;subst g;exact⟨rfl,fun y m=>by simp[Value.cells]at m;rcases m with rfl|rfl<;>rfl⟩
def B5 (a:Option Addr)(n c:Nat):A9 1 [.slice a n c]:=As5 (by intro e g;simp at g;exact⟨_,_,_,g⟩)
theorem Af.some' {m0 m:PH}{t:TypeId}{a:Addr}(z:Af m0 m (.slice (some a) n c) t sz es):∃ g,a=⟨g,0,none⟩/\m0 g=none:=by
 rcases z.2 with ⟨h,_,_⟩|⟨g,cap,rest,h0,_,h,_⟩
 ·grind
 grind
def Afh {α:Type}{l:List α}{e z:α}(g:l.length=j)(h:j<n):(l++List.replicate (n-j) z).set j e=l++[e]++List.replicate (n-(j+1)) z:=by
 subst g;rw[show n-l.length=(n-(l.length+1))+1 by omega,A68];simp
def Apj (d e:Nat):((d:Int)/((Nat.gcd (d:Int).natAbs (e:Int).natAbs:Nat):Int)*(e:Int))=((Nat.lcm d e:Nat):Int):=by
 rw[A1s,A1s,Nat.lcm,<-Nat.div_mul_right_comm (Nat.gcd_dvd_left d e)];rfl
def Ayt (u:PH)(v:Value)(D:Nat)(cs:List (List Int)):Prop:=∃ b a n c a' n' c',v=.agg #[.bool b,.slice a n c,.slice a' n' c']/\Bi u (.agg #[.bool b,.slice a n c]) (D:Int)/\Nl u (.slice a' n' c') cs
def Bp (D:Nat)(r:List Rat):List Int:=r.map fun q=>q.num*((D/q.den:Nat):Int)
structure DI where
 b:Bool
 a:Option Addr
 n:Nat
 c:Nat
 D:Nat
def A0i (d:DI):Value:=.agg #[.bool d.b,.slice d.a d.n d.c]
def Yd (u:PH)(d:DI)(L:Nat):Prop:=Bi u (A0i d) (d.D:Int)/\0<d.D/\d.D ∣ L
def Yd.mono {u u':PH}{d:DI}{L:Nat}(h:Yd u d L)(g:PH.le u u'):Yd u' d L:=⟨h.1.mono g,h.2⟩
def Aut {u:PH}{A:List (List Rat)}{L:Nat}(h:C7 u v (Cv A))(hT:∀ r∈A,∀ q∈r,Tx q)(hl:A.length<=1000000)(ad:∀ r∈A,r.length<=1000000)(hL:∀ r∈A,∀ q∈r,q.den ∣ L)(bb:0<L)(be:nl L<=1000000000) :
 Fn0 prog 120 [v] u fun v' u'=>∃ D,0<D/\D ∣ L/\(∀ r∈A,∀ q∈r,q.den ∣ D)/\Ayt u' v' D (A.map (Bp D)):=by
 obtain⟨a,c,rfl⟩:=h.opn;rw[A3]at h⊢;have aa:∀ D:Nat,D ∣ L->nl (D:Int).natAbs<=1000000000:=fun D P=>A04 (C4 (A48 bb P)) be;refine Fn0.o func120<|G.c call121 (Kf (z:=1) oV oV) ?_;intro v1 u1 l1 k1;obtain⟨b1,a1,n1,c1,rfl⟩:=k1.opn;refine G.l (ι:=Nat×List Value×(Option Addr×Nat×Nat)×DI)
  (fun i=>[(2,.p 0 0),(3,.p 1002 0),(4,sV i.2.2.1.1 i.2.2.1.2.1 i.2.2.1.2.2),(19,sV a A.length c),(20,iV A.length),(21,iV i.1)])
  (fun i=>[(0,⟨187,[bV false,sV none 0 0,sV none 0 0]⟩),(1002,⟨187,[bV i.2.2.2.b,sV i.2.2.2.a i.2.2.2.n i.2.2.2.c,sV none 0 0]⟩)])
  (fun i u' m'=>i.1<=A.length/\AtP F6 u' i.2.1 (A.take i.1)/\Af PH.mt m' (.slice i.2.2.1.1 i.2.2.1.2.1 i.2.2.1.2.2) 135 1 i.2.1/\Yd u' i.2.2.2 L/\∀ r∈A.take i.1,∀ q∈r,q.den ∣ i.2.2.2.D)
  (fun i=>A.length-i.1) (0,[],(none,0,0),⟨b1,a1,n1,c1,1⟩)
  ⟨A1t _,AtP.nil,Af.nil _ _ _,⟨k1,Nat.one_pos,Ba6 _⟩,fun r H=>by simp at H⟩ ?_
 rintro J ⟨k,Kp,⟨a2,n2,c2⟩,⟨db,da,dn,dc,D⟩⟩ hJ u2 m2 l2 ⟨hk,hF,hA,P,U⟩;simp only at hk hF hA P U hJ;have bg:=hF.1;rw[A1e]at bg;by_cases N:k<A.length
 ·refine G.lT k A.length ?_;have C:A[k]?=some A[k]:=A01 N;have m:=A09 N;obtain⟨ba,oa,a3,c3,rfl,e3,s3⟩:=(h.mono (l1.trans l2)).row (Dw C);rw[A03]at e3 s3;refine G.a ba oa A.length c k 1 oV<|G.lU none ba (oa+k*1) _ e3<|G.c call141 (T0 s3 (hT _ m) (ad _ m)) ?_;intro v4 u4 l4 k4;obtain⟨a4,c4,rfl⟩:=k4.lp.opn;refine G.l (ι:=Nat×DI)
   (fun i=>[(2,.p 0 0),(3,.p 1002 0),(4,sV a2 n2 c2),(19,sV (some ⟨ba,oa,none⟩) A.length c),(20,iV A.length),(21,iV k),(7,sV a4 A[k].length c4),(27,sV a4 A[k].length c4),(28,iV (A[k].length)),(29,iV i.1)])
   (fun i=>[(0,⟨187,[bV false,sV none 0 0,sV none 0 0]⟩),(1002,⟨187,[bV i.2.b,sV i.2.a i.2.n i.2.c,sV none 0 0]⟩)])
   (fun i u' m'=>i.1<=A[k].length/\m'=m2/\Yd u' i.2 L/\(∀ r∈A.take k,∀ q∈r,q.den ∣ i.2.D)/\∀ q∈A[k].take i.1,q.den ∣ i.2.D)
   (fun i=>A[k].length-i.1) (0,⟨db,da,dn,dc,D⟩)
   ⟨A1t _,rfl,P.mono l4,U,fun q F=>by simp at F⟩ ?_
  rintro J2 ⟨j,⟨eb,ea,en,ec,E⟩⟩ I u5 m5 Q ⟨hj,rfl,hE,ac,W⟩;simp only at hj hE ac W I;by_cases g:j<A[k].length
  ·refine G.lT j (A[k].length:Int) ?_;have O:A[k][j]?=some A[k][j]:=A01 g;have V:=A09 g;have X:=hT _ m _ V;obtain⟨b6,o6,e6,rfl,h6,f6⟩:=(k4.mono Q).lp.at O;obtain⟨x1,x2,x3,x4,x5,x6,x7,x8,rfl⟩:=f6.opn;refine G.a b6 o6 A[k].length c4 j 4 g<|G.lU (some 4) b6 (o6+j*4) _ h6<|G.c call189 (Sk f6) ?_;intro v7 u7 l7 k7;obtain⟨b7,a7,n7,c7,rfl⟩:=k7.opn;refine G.c call188 (Alk ((hE.mono l7).1) k7 (A04 (aa _ hE.2.2) oV) (A04 (Bd X.den) oV) (by have:=hE.2.1;dsimp only at this⊢;omega)) ?_;intro v8 u8 l8 k8;rw[Apj]at k8;obtain⟨b8,a8,n8,c8,rfl⟩:=k8.opn;refine G.add (j:Int) 1 ((j+1:Nat):Int) kV oV oV (by have:=ad _ m;omega)<|G.b (I (j+1,⟨b8,a8,n8,c8,Nat.lcm E A[k][j].den⟩) _ _ _ cV ((Q.trans l7).trans l8) ⟨dV,rfl,⟨k8,?_,?_⟩,?_,?_⟩ dV)
   ·have:=hE.2.1;simp only at this⊢;exact Nat.lcm_pos this (A[k][j]).den_pos
   ·exact Ba7 hE.2.2 (hL _ m _ V)
   ·exact fun r H q F=>A74 (ac r H q F) (A78 _ _)
   intro q F;dsimp only at F⊢;rw[A1n,O]at F;rcases A1h.1 F with F|F
   ·exact A74 (W q F) (A78 _ _)
   simp at F;subst F;exact Nat.dvd_lcm_right _ _
  have:j=A[k].length:=oV;subst this;rw[A15]at W;refine G.lF (A[k].length:Int) (A[k].length:Int)<|G.B 135 1 24 (.slice none 0 0) [.slice a4 A[k].length c4] (B5 _ _ _) ?_;intro g6 u6 l6 e6;refine G.append 135 1 24 (.slice none 0 0) PH.mt Kp [.slice a4 A[k].length c4] (.slice a2 n2 c2) g6 0 1 1 kV rfl rfl oV hA e6 (B5 _ _ _) rfl oV oV oV ?_;intro v7 m7 am;obtain⟨a7,c7,rfl⟩:=am.shape;refine G.i k<|G.b (hJ (k+1,Kp++[Value.slice a4 A[k].length c4],(a7,(Kp++[Value.slice a4 A[k].length c4]).length,c7),⟨eb,ea,en,ec,E⟩) _ _ _ cV (((l2.trans l4).trans Q).trans l6) ⟨dV,?_,am,hE.mono l6,?_⟩ dV)
  ·dsimp only;rw[A1n,C];exact (hF.mono (fun _ _ h=>h.mono ((l4.trans Q).trans l6))).snoc (k4.mono (Q.trans l6))
  intro r H;dsimp only at H⊢;rw[A1n,C]at H;rcases A1h.1 H with H|H
  ·exact ac r H
  simp at H;subst H;exact W
 have:k=A.length:=oV;subst this;rw[A15]at hF U;refine G.lF A.length A.length<|G.give PH.mt Kp _ kV hA (fun _=>.inl rfl) ?_;intro u3 l3 ab;have bj:Kp.length=A.length:=by rw[hF.1]
 obtain⟨_,_,e0⟩:=ab.opn;simp only[Value.slice.injEq]at e0;obtain⟨rfl,rfl,rfl⟩:=e0;rw[bj]at ab⊢;have b9:Aeq u3 (.slice a2 A.length c2) A:=⟨Kp,ab,hF.mono (fun _ _ h=>h.mono l3)⟩;refine G.l (ι:=Nat×List Value×(Option Addr×Nat×Nat))
  (fun i=>[(2,.p 0 0),(3,.p 1002 0),(45,sV a2 A.length c2),(46,iV A.length),(47,iV i.1)])
  (fun i=>[(0,⟨187,[bV false,sV none 0 0,sV none 0 0]⟩),(1002,⟨187,[bV db,sV da dn dc,sV i.2.2.1 i.2.2.2.1 i.2.2.2.2]⟩)])
  (fun i u' m'=>i.1<=A.length/\AtP Y6 u' i.2.1 ((A.take i.1).map (Bp D))/\Af PH.mt m' (.slice i.2.2.1 i.2.2.2.1 i.2.2.2.2) 190 1 i.2.1)
  (fun i=>A.length-i.1) (0,[],(none,0,0))
  ⟨A1t _,AtP.nil,Af.nil _ _ _⟩ ?_
 rintro J2 ⟨k,cv,⟨a5,n5,c5⟩⟩ I u5 m5 Q ⟨bi,hN,a9⟩;simp only at bi hN a9 I;have aq:=hN.1;rw[A03,A1e]at aq;by_cases N:k<A.length
 ·refine G.lT k A.length ?_;have C:A[k]?=some A[k]:=A01 N;have m:=A09 N;have cc:=ad _ m;obtain⟨b6,o6,e6,rfl,h6,f6⟩:=LP.at (b9.mono Q) C;obtain⟨a7,c7,rfl⟩:=f6.lp.opn;refine G.a b6 o6 A.length c2 k 1 oV<|G.lU none b6 (o6+k*1) _ h6<|G.make 141 2 32 (.agg #[.bool false,.slice none 0 0]) A[k].length kV rfl rfl oV oV oV ?_;rintro v8 m8 an ⟨a8,rfl⟩;obtain⟨Y,rfl,ca⟩:=an.some';refine G.l (ι:=Nat×List Value)
   (fun i=>[(2,.p 0 0),(3,.p 1002 0),(45,sV (some ⟨b6,o6,none⟩) A.length c2),(46,iV A.length),(47,iV k),(12,sV (some ⟨Y,0,none⟩) A[k].length A[k].length),(54,sV a7 A[k].length c7),(55,iV (A[k].length)),(56,iV i.1)])
   (fun i=>[(0,⟨187,[bV false,sV none 0 0,sV none 0 0]⟩),(1002,⟨187,[bV db,sV da dn dc,sV a5 n5 c5]⟩)])
   (fun i u' m'=>i.1<=A[k].length/\AtP Bi u' i.2 (Bp D (A[k].take i.1))/\Af m5 m' (.slice (some ⟨Y,0,none⟩) A[k].length A[k].length) 141 2 (i.2++List.replicate (A[k].length-i.1) (.agg #[.bool false,.slice none 0 0])))
   (fun i=>A[k].length-i.1) (0,[])
   ⟨A1t _,AtP.nil,by simpa using an⟩ ?_
  rintro J3 ⟨j,done⟩ ao u9 m9 l9 ⟨bh,K,T⟩;simp only at bh K T ao;have ar:=K.1;rw[Bp,A03,A1e]at ar;by_cases g:j<A[k].length
  ·refine G.lT j (A[k].length:Int) ?_;have O:A[k][j]?=some A[k][j]:=A01 g;have V:=A09 g;have X:=hT _ m _ V;have cb:=(A[k][j]).den_pos;obtain⟨aj,az,c6,rfl,b5,a6⟩:=(f6.mono l9).lp.at O;obtain⟨x1,x2,x3,x4,x5,x6,x7,x8,rfl⟩:=a6.opn;refine G.a aj az A[k].length c7 j 4 g<|G.lU (some 4) aj (az+j*4) _ b5<|G.c call189 (Sk a6) ?_;intro co bl t au;obtain⟨br,bn,cg,bw,rfl⟩:=au.opn;refine G.c call190 (M1 ((P.mono (((l3.trans Q).trans l9).trans t)).1) au (A04 (aa _ P.2.2) oV) (A04 (Bd X.den) oV) oV) ?_;rintro bm cl ag ⟨cp,cq,rfl,ae,bk⟩;obtain⟨bs,bo,ch,bx,rfl⟩:=ae.opn;obtain⟨bt,bp,ci,bz,rfl⟩:=bk.opn;refine G.c call191 (Ael (a6.mono (t.trans ag))) ?_;intro cr cm ah av;obtain⟨bu,bq,cj,c0,rfl⟩:=av.opn;have bf:((D:Int)/(A[k][j].den:Int))=((D/A[k][j].den:Nat):Int):=by push_cast;rfl
   rw[bf]at ae;refine G.c call126 (Ea av (ae.mono ah) (A04 (Bd X.1) oV) (by rw[A1s];exact A04 (Tk _ _) (A04 (aa _ P.2.2) oV))) ?_;intro cs cn ax aw;obtain⟨ak,ai,ay,al,rfl⟩:=aw.opn;refine G.a Y 0 A[k].length A[k].length j 2 g<|G.storeA 2 m5 _ Y A[k].length A[k].length j (.agg #[.bool ak,.slice ai ay al]) kV T gV rfl rfl ?_;intro ce a0;rw[Afh oV g]at a0;refine G.i j<|G.b (ao (j+1,done++[.agg #[.bool ak,.slice ai ay al]]) _ _ _ cV ((((l9.trans t).trans ag).trans ah).trans ax) ⟨dV,?_,a0⟩ dV);dsimp only;rw[A1n,O,Bp,A1i];exact (K.mono (fun _ _ h=>h.mono (((t.trans ag).trans ah).trans ax))).snoc aw
  have:j=A[k].length:=oV;subst this;rw[A15]at K;rw[A4i,A42,A1x]at T;refine G.lF (A[k].length:Int) (A[k].length:Int)<|G.give m5 done _ kV T (fun _=>.inl rfl) ?_;intro ck af ap;refine G.B 190 1 24 (.slice none 0 0) [.slice (some ⟨Y,0,none⟩) A[k].length A[k].length] (B5 _ _ _) ?_;intro b4 bl t b3;refine G.append 190 1 24 (.slice none 0 0) PH.mt cv [.slice (some ⟨Y,0,none⟩) A[k].length A[k].length] (.slice a5 n5 c5) b4 0 1 1 kV rfl rfl oV a9 b3 (B5 _ _ _) rfl oV oV oV ?_;intro bm cd Z;obtain⟨b0,b2,rfl⟩:=Z.shape;refine G.i k<|G.b (I (k+1,cv++[.slice (some ⟨Y,0,none⟩) A[k].length A[k].length],(b0,(cv++[Value.slice (some ⟨Y,0,none⟩) A[k].length A[k].length]).length,b2)) _ _ _ cV (((Q.trans l9).trans af).trans t) ⟨dV,?_,Z⟩ dV);dsimp only;rw[A1n,C,A1i];exact (hN.mono (fun _ _ h=>h.mono ((l9.trans af).trans t))).snoc (x:=Bp D A[k]) ⟨done,ap.mono t,K.mono (fun _ _ h=>h.mono (af.trans t))⟩
 have:k=A.length:=oV;subst this;rw[A15]at hN;refine G.lF A.length A.length<|G.give PH.mt cv _ kV a9 (fun _=>.inl rfl) ?_;intro u6 l6 bd;exact G.r (.agg #[.bool db,.slice da dn dc,.slice a5 n5 c5]) ⟨rfl,D,P.2.1,P.2.2,U,db,da,dn,dc,a5,n5,c5,rfl,(P.mono ((l3.trans Q).trans l6)).1,cv,bd,hN.mono (fun _ _ h=>h.mono l6)⟩
end
def Nl.opn {u:PH}{v:Value}{cs:List (List Int)}(h:Nl u v cs):∃ a c,v=.slice a cs.length c:=LP.opn h
def Y6.opn {u:PH}{v:Value}{cs:List Int}(h:Y6 u v cs):∃ a c,v=.slice a cs.length c:=LP.opn h
theorem Atd {u:PH}{v:Value}{D K:Nat}{cs:List (List Int)}(ht:Hx u)(h:Ayt u v D cs)(hK:K<=400)(hD:Lib.nDigits D<=K)(hc:∀ r∈cs,∀ z∈r,Lib.nDigits z.natAbs<=K)(hl:cs.length<=1000000)(hl2:∀ r∈cs,r.length<=1000000) :
 Fn0 prog 187 [v] u fun v' _=>∃ n:Nat,v'=.int .i64 (n:Int)/\n<=K:=by
 obtain⟨b,a,n,c,a',n',c',rfl,h1,h2⟩:=h;obtain⟨a'',c'',e⟩:=h2.opn;simp only[Value.slice.injEq]at e;obtain⟨rfl,rfl,rfl⟩:=e;refine Fn0.o func187 ?_;refine G.c call142 (M7 ht h1 (by rw[A1s];exact A04 (Bd oV) oV)) ?_;rintro v1 u1 l1 rfl;rw[A1s];refine G.l (ι:=Nat×Nat) (fun i=>[(1,.p 0 0),(3,iV i.2),(12,sV a' cs.length c'),(13,iV cs.length),(14,iV i.1)])
  (fun i=>[(0,⟨187,[bV b,sV a n c,sV a' cs.length c']⟩)])
  (fun i u' m'=>i.1<=cs.length/\i.2<=K/\m'=PH.mt) (fun i=>cs.length-i.1) (0,Lib.nDigits D) ⟨A1t _,hD,rfl⟩ ?_
 rintro J ⟨i,k⟩ hJ u2 m2 l2 ⟨hi,hk,rfl⟩;simp only at hi hk hJ;by_cases hlt:i<cs.length
 ·refine G.lT (i:Int) (cs.length:Int) ?_;have hti:cs[i]?=some cs[i]:=A01 hlt;have hmem:=A09 hlt;obtain⟨b3,o3,e3,rfl,h3,f3⟩:=LP.at (h2.mono (l1.trans l2)) hti;obtain⟨a4,c4,rfl⟩:=f3.opn;refine G.a b3 o3 cs.length c' i 1 hlt ?_;refine G.lU none b3 (o3+i*1) _ h3 ?_;refine G.l (ι:=Nat×Nat) (fun j=>[(1,.p 0 0),(3,iV j.2),(12,sV (some ⟨b3,o3,none⟩) cs.length c'),(13,iV cs.length),(14,iV i),(18,sV a4 cs[i].length c4),(19,iV (cs[i].length)),(20,iV j.1)])
   (fun j=>[(0,⟨187,[bV b,sV a n c,sV (some ⟨b3,o3,none⟩) cs.length c']⟩)])
   (fun j u' m'=>j.1<=cs[i].length/\j.2<=K/\m'=PH.mt) (fun j=>cs[i].length-j.1) (0,k) ⟨A1t _,hk,rfl⟩ ?_
  rintro J2 ⟨j,k2⟩ hJ2 u5 m5 l5 ⟨hj,hk2,rfl⟩;simp only at hj hk2 hJ2;have hrl:=hl2 _ hmem;by_cases hlt2:j<cs[i].length
  ·refine G.lT (j:Int) (cs[i].length:Int) ?_;have htj:cs[i][j]?=some cs[i][j]:=A01 hlt2;have hzm:=hc _ hmem _ (A09 hlt2);obtain⟨b6,o6,e6,rfl,h6,f6⟩:=LP.at (f3.mono l5) htj;obtain⟨b7,a7,n7,c7,rfl⟩:=f6.opn;refine G.a b6 o6 cs[i].length c4 j 2 hlt2 ?_;refine G.lU (some 2) b6 (o6+j*2) _ h6 ?_;refine G.c call142 (M7 (ht.mono ((l1.trans l2).trans l5)) f6 (A04 (Bd oV) oV)) ?_;rintro v8 u8 l8 rfl;generalize Lib.nDigits (cs[i][j]).natAbs=d at *
   refine G.maxI [3,3] (k2:Int) (d:Int) ((max k2 d:Nat):Int) kV oV ?_;refine G.i j ?_;exact G.b (hJ2 (j+1,max k2 d) _ _ _ cV (l5.trans l8) ⟨dV,dV,rfl⟩ dV)
  ·refine G.lF (j:Int) (cs[i].length:Int) ?_;refine G.i i ?_;exact G.b (hJ (i+1,k2) _ _ _ cV (l2.trans l5) ⟨dV,hk2,rfl⟩ dV)
 ·refine G.lF (i:Int) (cs.length:Int) ?_;exact G.r (.int .i64 (k:Int)) ⟨rfl,k,rfl,hk⟩
def Aie {u:PH}{v:Value}{A:List (List Rat)}{L K N:Nat}(ht:Hx u)(h:C7 u v (Cv A))(hT:∀ r∈A,∀ q∈r,Tx q)(hl:A.length<=N)(I:∀ r∈A,r.length<=N)(hN:N<=12)(T:N*K<=600)(hK:K<=400)
 (hL:∀ r∈A,∀ q∈r,q.den ∣ L) (Q:0<L) (R:nl L<=1000000000) (hD:∀ D:Nat,D ∣ L->0<D->Lib.nDigits D<=K/\∀ r∈A,∀ q∈r,q.den ∣ D->Lib.nDigits (q.num*((D/q.den:Nat):Int)).natAbs<=K) :
 Fn0 prog 119 [v] u fun v' _=>v'=.bool false:=by
 have J:=fun (v:Value) (P:PH) (hv:C7 P v (Cv A))=>Aut hv hT oV (fun r O=>by have:=I r O;omega) hL Q R;obtain⟨a,c,rfl⟩:=h.opn;rw[A3]at h⊢;have t:=fun (P:PH) (x:Value) (D:Nat) (U:Hx P) (hx:Ayt P x D (A.map (Bp D))) (Z:D ∣ L) (h0:0<D) (h2:∀ r∈A,∀ q∈r,q.den ∣ D) =>
  Atd (K:=K) U hx hK (hD D Z h0).1 (fun r O z hz=>by
   obtain⟨j,m,rfl⟩:=A1b.1 O;obtain⟨q,hq,rfl⟩:=A1b.1 hz;exact (hD D Z h0).2 j m q hq (h2 j m q hq)) (by rw[A03];omega) (fun r O=>by
   obtain⟨j,m,rfl⟩:=A1b.1 O;rw[Bp,A03];have:=I j m;omega)
 refine Fn0.o func119 ?_;by_cases C:0<A.length
 ·refine G.gT A.length 0 ?_;have V:A[0]?=some A[0]:=A01 C;have a0:=I _ (A09 C);obtain⟨X,oa,a',c',rfl,Y,es⟩:=h.row (Dw V);rw[A03]at Y;generalize A[0].length=j at *
  refine G.a X oa A.length c 0 1 oV<|G.lU none X (oa+0*1) (.slice a' j c') Y<|G.maxI [3,3] (A.length:Int) (j:Int) ((max A.length j:Nat):Int) kV oV<|G.c call120 (J _ _ h) ?_;rintro v1 u1 W ⟨D,E,F,H,e⟩;have g:=e;obtain⟨x1,x2,x3,x4,x5,x6,x7,rfl,_,_⟩:=e;refine G.c call187 (t _ _ D (ht.mono W) g F E H) ?_;rintro v2 u2 l2 ⟨n,rfl,hn⟩;have hm:max A.length j*n<=600:=A04 (A25 (by omega:max A.length j<=N) hn) T;exact G.mul ((max A.length j:Nat):Int) (n:Int) ((max A.length j*n:Nat):Int) kV (by push_cast;rfl) oV oV<|G.gF (max A.length j*n:Nat) 600<|G.r (.bool false) ⟨rfl,rfl⟩
 refine G.gF A.length 0<|G.c call120 (J _ _ h) ?_;rintro v1 u1 W ⟨D,E,F,H,e⟩;have g:=e;obtain⟨x1,x2,x3,x4,x5,x6,x7,rfl,_,_⟩:=e;refine G.c call187 (t _ _ D (ht.mono W) g F E H) ?_;rintro v2 u2 l2 ⟨n,rfl,hn⟩;have h0:A.length=0:=oV;exact G.mul (A.length:Int) (n:Int) 0 kV (by rw[h0];simp) oV oV<|G.gF 0 600<|G.r (.bool false) ⟨rfl,rfl⟩
structure Y5 (A:List (List Rat))(L K:Nat):Prop where
 den:∀ r∈A,∀ q∈r,q.den ∣ L
 pos:0<L
 nl:nl L<=1000000000
 dig:∀ D:Nat,D ∣ L->0<D->Lib.nDigits D<=K/\∀ r∈A,∀ q∈r,q.den ∣ D->Lib.nDigits (q.num*((D/q.den:Nat):Int)).natAbs<=K
section
variable [Cl] [Co] [Pu]
structure Arr where
 v:Value
 t:TypeId
 sz:Nat
 es:List Value
def Arr.At (a:Arr)(m0 m:PH):Prop:=Af m0 m a.v a.t a.sz a.es
def Bag:PH->List Arr->Prop
 |_,[]=>True
 |m,a::l=>∃ m0,a.At m0 m/\Bag m0 l
def Iq (m:PH){g h:Nat}(o p:Obj)(n:g≠h):(m.upd g o).upd h p=(m.upd h p).upd g o:=by
 funext k
 unfold PH.upd;by_cases e:k=g
 ·subst e;simp[n]
 by_cases j:k=h
 ·subst j;simp[e]
 simp[e,j]
def At.swap {x y:Arr}{m0 m1 m:PH}(U:y.At m1 m)(T:x.At m0 m1):∃ V,y.At m0 V/\x.At V m/\∀ (R:Arr) K,R.At V K->∃ Q,y.At Q K/\R.At m0 Q:=by
 obtain⟨H,U⟩:=U;rcases U with ⟨y1,y2,rfl⟩|⟨h,cap,rest,y1,rfl,y2,y3,y4,L⟩
 ·exact⟨m0,⟨H,.inl ⟨y1,y2,rfl⟩⟩,T,fun R K j=>⟨K,⟨H,.inl ⟨y1,y2,rfl⟩⟩,j⟩⟩
 obtain⟨ox,T⟩:=T;rcases T with ⟨W,X,rfl⟩|⟨g,N,I,W,rfl,X,x3,x4,x5⟩
 ·refine⟨_,⟨H,.inr ⟨h,cap,rest,y1,rfl,y2,y3,y4,L⟩⟩,⟨ox,.inl ⟨W,X,rfl⟩⟩,fun R K j=>?_⟩;obtain⟨F,j⟩:=j;rcases j with ⟨C,J,rfl⟩|⟨O,t,n,C,rfl,J,Y,Z,z5⟩
  ·exact⟨_,⟨H,.inr ⟨h,cap,rest,y1,rfl,y2,y3,y4,L⟩⟩,⟨F,.inl ⟨C,J,rfl⟩⟩⟩
  have z:O≠h:=fun e=>by subst e;rw[Ab]at C;cases C
  rw[Ad _ _ z]at C;refine⟨_,⟨H,.inr ⟨h,cap,rest,?_,Iq _ _ _ z.symm,y2,y3,y4,L⟩⟩,⟨F,.inr ⟨O,t,n,C,rfl,J,Y,Z,z5⟩⟩⟩;rw[Ad _ _ z.symm];exact y1
 have z:h≠g:=fun e=>by subst e;rw[Ab]at y1;cases y1
 rw[Ad _ _ z]at y1;refine⟨_,⟨H,.inr ⟨h,cap,rest,y1,rfl,y2,y3,y4,L⟩⟩,⟨ox,.inr ⟨g,N,I,?_,Iq _ _ _ z.symm,X,x3,x4,x5⟩⟩,fun R K j=>?_⟩
 ·rw[Ad _ _ z.symm];exact W
 obtain⟨F,j⟩:=j;rcases j with ⟨C,J,rfl⟩|⟨O,t,n,C,rfl,J,Y,Z,z5⟩
 ·exact⟨_,⟨H,.inr ⟨h,cap,rest,y1,rfl,y2,y3,y4,L⟩⟩,⟨F,.inl ⟨C,J,rfl⟩⟩⟩
 have E:O≠h:=fun e=>by subst e;rw[Ab]at C;cases C
 rw[Ad _ _ E]at C;refine⟨_,⟨H,.inr ⟨h,cap,rest,?_,Iq _ _ _ E.symm,y2,y3,y4,L⟩⟩,⟨F,.inr ⟨O,t,n,C,rfl,J,Y,Z,z5⟩⟩⟩;rw[Ad _ _ E.symm];exact y1
def Bag.focus:∀ {l:List Arr} {m:PH} (_:Bag m l) (i:Nat) {x:Arr},l[i]?=some x->∃ m0,x.At m0 m/\∀ (g:Arr) j,g.At m0 j->Bag j (l.set i g)
 |[],m,_,i,x,hi=>by simp at hi
 |y::l,m,⟨m1,hy,hl⟩,0,x,hi=>by
  simp at hi;subst hi;exact⟨m1,hy,fun g j e=>⟨m1,e,hl⟩⟩
 |y::l,m,⟨m1,hy,hl⟩,i+1,x,hi=>by
  simp at hi;obtain⟨m0,C,h⟩:=Bag.focus hl i hi;obtain⟨I,E,t,z⟩:=At.swap hy C;refine⟨I,t,fun g j e=>?_⟩;obtain⟨n,F,H⟩:=z g j e;exact⟨n,F,h g n H⟩
def Bag.take:∀ {l:List Arr} {m:PH} (_:Bag m l) (i:Nat) {x:Arr},l[i]?=some x->∃ m0,x.At m0 m/\Bag m0 (l.eraseIdx i)
 |[],m,_,i,x,hi=>by simp at hi
 |y::l,m,⟨m1,hy,hl⟩,0,x,hi=>by
  simp at hi;subst hi;exact⟨m1,hy,hl⟩
 |y::l,m,⟨m1,hy,hl⟩,i+1,x,hi=>by
  simp at hi;obtain⟨m0,j,e⟩:=Bag.take hl i hi;obtain⟨n,h,g,t⟩:=At.swap hy j;exact⟨n,g,m0,h,e⟩
def Bag.el {l:List Arr}{m:PH}(h:Bag m l)(i:Nat){x:Arr}(hi:l[i]?=some x){b n c j:Nat}{e:Value}(z:x.v=.slice (some ⟨b,0,none⟩) n c)(t:x.es[j]?=some e):ElP m b (0+j*x.sz) e:=by
 obtain⟨m0,g,_⟩:=h.focus i hi;unfold Arr.At at g;rw[z]at g;exact g.el t
def Bag.shape {l:List Arr}{m:PH}(h:Bag m l)(i:Nat){x:Arr}(hi:l[i]?=some x):∃ a c,x.v=.slice a x.es.length c:=by
 obtain⟨m0,e,_⟩:=h.focus i hi;exact e.shape
def Bag.ptr {l:List Arr}{m:PH}(h:Bag m l)(i:Nat){x:Arr}(hi:l[i]?=some x)(e:x.es≠[]):∃ b c,x.v=.slice (some ⟨b,0,none⟩) x.es.length c:=by
 obtain⟨m0,g,_⟩:=h.focus i hi;exact g.ptr e
def Af.join {m mc:PH}{v:Value}{t:TypeId}{sz:Nat}{es:List Value}(h:Af PH.mt mc v t sz es)(J:∀ g,mc g≠none->m g=none):Af m (m.or mc) v t sz es:=by
 obtain⟨E,h⟩:=h;rcases h with ⟨z,j,rfl⟩|⟨g,cap,rest,z,rfl,j,F,H,I⟩
 ·refine⟨E,.inl ⟨z,j,?_⟩⟩
  funext k;unfold PH.or;split
  ·rename_i o e;rw[e]
  rename_i e;rw[e];rfl
 have C:m g=none:=J g (by rw[Ab];simp);refine⟨E,.inr ⟨g,cap,rest,C,?_,j,F,H,I⟩⟩
 funext k
 by_cases n:k=g
 ·subst n;rw[Ab,PH.or_r C,Ab]
 rw[Ad _ _ n];unfold PH.or;split
 ·rename_i o e;rw[e]
 rename_i e;rw[e,Ad _ _ n];rfl
section rules
variable {P:Program} [A6 P] {fn:Func} {Post:Ce} {st:List KI×S} {u m:PH}
def G.callO (f:Nat)(args:List Value){R:Value->PH->PH->Prop}(h:Aj P (adv P st)=.call f args)(X:∀ args w,(callFunc f args).run P w=.ok (.enter f args) w)(c:Ag P f args u PH.mt R)
 (k:∀ v j mc,PH.le u j->R v j mc->(∀ g,mc g≠none->m g=none)->G P fn Post (nx (adv P st) v) j (m.or mc)):G P fn Post st u m:=by
 refine G.big (K:=fun v j I=>∃ mc,I=m.or mc/\R v j mc/\∀ g,mc g≠none->m g=none) h mV Dv (.inl fun v j I V=>?_) (fun Q o t w n=>?_) (fun v j I T U=>?_)
 ·obtain⟨mc,rfl,_⟩:=V;exact fun g o E=>PH.or_l E
 ·refine Hq t X w _ (Calls.mono (c w n.noM) fun e w' Y=>?_);obtain⟨v,j,mc,L,N,J,O⟩:=Y;have z:m.or PH.mt=m:=by
   funext g;unfold PH.or;split
   ·rename_i o e;rw[e]
   rename_i e;rw[e];rfl
  have C:∀ g,mc g≠none->m g=none:=fun g E=>by
   rcases A2e g w.heap.size with H|F
   ·exact absurd (J.ms g H rfl) E
   exact n.pm.none F
  obtain⟨g1,g2⟩:=Bv.frameM (mf:=m) (mc:=PH.mt) (by rw[z];exact n) (fun _=>.inr rfl) N J;rw[z]at g2;exact⟨v,L,j,m.or mc,g1,g2,mc,rfl,O,C⟩
 obtain⟨mc,rfl,W,Z⟩:=U;exact k v j mc T W Z
def Abj {e:Operand->Value}{o:Op}{ts:List TypeId}{xs:List Value}(h:Bc P e o=.blt .copy ts xs):Nk o=true/\Fa o=false:=by
 obtain⟨c,rfl,g,_⟩:=Rb h;obtain⟨j,a,t⟩:=c;simp only at g;subst g;exact⟨rfl,rfl⟩
def G.copyM (U sT e:TypeId)(sz g o n c:Nat)(a:Addr)(N sc:Nat)(t:TypeId)(z cs:List Value)(h:Aj P (adv P st)=.blt .copy [U,sT] [.slice (some ⟨g,o,none⟩) n c,.slice (some a) N sc])
 (hu:P.underlying U=some (.slice e)) (Z:szB P e=some sz) (hb:m g=some (.cells z.toArray t (0,0))) (Y:cs.length=Nat.min N n*sz)
 (R:∀ w,Fj u w->Fj m w->∀ (j:Nat) (v:Value),cs[j]?=some v->w.cell? (a.add j)=some v) (O:o+cs.length<=z.length) (h1:∀ x∈cs,Ax x=true) (h2:∀ x∈z,Ax x=true)
 (k:G P fn Post (nx (adv P st) (.int .i64 (Nat.min N n:Nat))) u (m.upd g (.cells (z.take o++cs++z.drop (o+cs.length)).toArray t (0,0)))):G P fn Post st u m:=by
 refine G.big (K:=fun v' u' m'=>u'=u/\v'=.int .i64 (Nat.min N n:Nat)/\m'=m.upd g (.cells (z.take o++cs++z.drop (o+cs.length)).toArray t (0,0))) h mV (fun H op hv=>(Abj hv).2) (.inr fun H op hv=>(Abj hv).1) (fun H op L w E=>?_) (fun v' u' m' _ Y=>?_)
 ·obtain⟨cc,e1,e2,e3,e4⟩:=Rb L;obtain⟨V,a1,F,pos,after,I⟩:=op;obtain⟨a0,ar,ty⟩:=cc;simp only at e1 e2 e3 e4;subst e1 e2 e3;have X:=E.pm g _ hb;have hl:=run_loadCells_list (P:=P) w a cs (R w E.pu E.pm);have T:=run_storeCells_at P g o t cs 0 z.toArray w X (by simpa using O) (fun x C=>Gl (h1 x C));have Q:(Builtin.copy_ #[U,sT] F #[.slice (some ⟨g,o,none⟩) n c,.slice (some a) N sc]).run P w=.ok (.int .i64 (Nat.min N n:Nat)) (w.setRow g (z.take o++cs++z.drop (o+cs.length)).toArray):=by
   simp only[A3s,A3t]at T;simp[Builtin.copy_,run_underlying hu,Builtin.lenOf,Builtin.firstCells,Bf Z,<-Y,hl];rw[T];simp[goInt]
  have J:∀ x∈(z.take o++cs++z.drop (o+cs.length)).toArray.toList,Ax x=true:=by
   intro x C;simp only[A3t,A1h]at C;rcases C with (C|C)|C
   ·exact h2 x (A27 C)
   ·exact h1 x C
   exact h2 x (A3x C)
  obtain⟨g1,g2⟩:=E.setM hb J;unfold Eg;have W:(execOp H ⟨V,.call ⟨.builtin .copy,ar,#[U,sT]⟩,F,pos,after,I⟩).run P w=.ok (.value (.int .i64 (Nat.min N n:Nat))) (w.setRow g (z.take o++cs++z.drop (o+cs.length)).toArray):=by
   simp[execOp,resolve,invoke,builtin,e4,Q]
  rw[W];exact⟨u,_,g1,g2,rfl,rfl,rfl⟩
 obtain⟨rfl,rfl,rfl⟩:=Y;exact k
end rules
end
section
variable {e z:Value}{es:List Value}{k n q sz:Nat}
def Ank (h:A9 sz es)(k:Nat):(A2 es).take (k*sz)=A2 (es.take k):=by
 by_cases t:k<=es.length
 ·have e:A2 es=A2 (es.take k)++A2 (es.drop k):=by rw[<-Dq,A4h]
  have g:(A2 (es.take k)).length=k*sz:=by rw[Ba (sz:=sz) (fun x j=>h x (A27 j)),A1e];congr 1;omega
  rw[e,A6n oV,<-g,A15]
 rw[A1j (by rw[Ba h];exact A13 _ oV),A1j oV]
def Am5 (h:A9 sz es)(k:Nat):(A2 es).drop (k*sz)=A2 (es.drop k):=by
 by_cases t:k<=es.length
 ·have e:A2 es=A2 (es.take k)++A2 (es.drop k):=by rw[<-Dq,A4h]
  have g:(A2 (es.take k)).length=k*sz:=by rw[Ba (sz:=sz) (fun x j=>h x (A27 j)),A1e];congr 1;omega
  rw[e,<-g,A8s]
 rw[A2b (by rw[Ba h];exact A13 _ oV),A2b oV];rfl
def A9.replicate (h:A9 sz [e])(n:Nat):A9 sz (List.replicate n e):=fun x g=>h x (by rw[A7g g];simp)
section rules
variable {P:Program} [A6 P] {fn:Func} {Post:Ce} {st:List KI×S} {u m:PH}
def G.copyA (N X e:TypeId)(sz g n k:Nat)(a:Addr)(H Y c:Nat)(t:TypeId)(m0:PH)(es xs:List Value)(h:Aj P (adv P st)=.blt .copy [N,X] [.slice (some ⟨g,0+k*sz,none⟩) (n-k) c,.slice (some a) H Y])
 (hu:P.underlying N=some (.slice e)) (Q:szB P e=some sz) (T:Af m0 m (.slice (some ⟨g,0,none⟩) n n) t sz es) (L:A9 sz xs) (J:xs.length=Nat.min H (n-k)) (a0:k<=n)
 (K:∀ w,Fj u w->Fj m w->∀ (j:Nat) (v:Value),(A2 xs)[j]?=some v->w.cell? (a.add j)=some v)
 (kk:∀ W,Af m0 W (.slice (some ⟨g,0,none⟩) n n) t sz (es.take k++xs++es.drop (k+xs.length))->G P fn Post (nx (adv P st) (.int .i64 ((Nat.min H (n-k):Nat):Int))) u W):G P fn Post st u m:=by
 have U:=T.len;obtain⟨C,Z⟩:=T;rcases Z with ⟨O,_,_⟩|⟨g',cap,rest,O,rfl,I,h3,R,h5⟩
 ·simp at O
 simp only[Value.slice.injEq,A1f,Addr.mk.injEq,and_true]at I;obtain⟨rfl,I,rfl⟩:=I;have hr:rest = []:=by
  rw[A1d,Ba C,<-I]at R;exact A2l oV
 subst hr;simp only[A1x]at R⊢;have V:Nat.min H (n-k)<=n-k:=A79 _ _;have E:(A2 xs).length=Nat.min H (n-k)*sz:=by rw[Ba L,J]
 refine G.copyM N X e sz g (0+k*sz) (n-k) c a H Y t (A2 es) (A2 xs) h hu Q (Ab _ _ _) E (by simpa using K) (by rw[E,Ba C,<-I,A2w,<-A16];exact A13 _ oV) (Fu L) (Fu C) ?_;rw[Dp];refine kk _ ⟨?_,.inr ⟨g,n,[],O,?_,?_,?_,?_,mV⟩⟩
 ·exact ((A9.append (fun x F=>C x (A27 F)) L).append (fun x F=>C x (A3x F)))
 ·congr 3
  rw[A2w,Ank C,E,<-A16,Am5 C,<-Dq,<-Dq,A1x,J]
 ·congr 1
  simp only[A1d,A1e,A4y,J];omega
 ·simp only[A1d,A1e,A4y,J];omega
 rw[A1x,Ba (sz:=sz)]
 ·congr 1
  simp only[A1d,A1e,A4y,J];omega
 exact ((A9.append (fun x F=>C x (A27 F)) L).append (fun x F=>C x (A3x F)))
end rules
def Aqu {u:PH}(g:n<=1000000):Fn0 prog 250 [.int .u64 1,.int .u64 (n:Int)] u fun v _=>v=.tuple #[.int .u64 0,.int .u64 (n:Int)]:=by
 refine Fn0.ofW (fun v _=>v=.tuple #[.int .u64 0,.int .u64 (n:Int)]) (fun w _=>(Tryz.bits_Mul 1 n oV oV w).mono fun _ _ ⟨e,h⟩=>⟨_,e,?_,by rw[h];exact Ext.refl _⟩) (fun _ _ _ h _ _ _=>h);rw[A3i,A49 oV,A5i oV];rfl
def Aeg {z:Int}(g:0<=z)(h:z<18446744073709551616):IntKind.u64.wrap z=z:=by
 simp only[IntKind.wrap,IntKind.signed,IntKind.bits];simp;omega
def Aek (g:k+q<=n):(List.replicate k e++List.replicate (n-k) z).take k++List.replicate q e++(List.replicate k e++List.replicate (n-k) z).drop (k+(List.replicate q e).length)=List.replicate (k+q) e++List.replicate (n-(k+q)) z:=by
 rw[List.take_left' mV,A3k,List.drop_append,A2b mV,A3k,A3q,List.drop_replicate,List.replicate_append_replicate]
 congr 2;omega
def Apq {g q k r:Nat}{u m m0:PH}{t:TypeId}(I:A9 sz [e])(K:q<=k)(E:0<sz)(F:Af m0 m (.slice (some ⟨g,0,none⟩) n n) t sz (List.replicate k e++List.replicate r z)) :
 ∀ w,Fj u w->Fj m w->∀ (j:Nat) (v:Value),(A2 (List.replicate q e))[j]?=some v->w.cell? ((⟨g,0,none⟩:Addr).add j)=some v:=by
 intro w _ hp j v H;refine Hc.cells (u:=m) (b:=g) (off:=0) E (fun i x hi=>?_) (I.replicate q) hp j v H;have C:i<q:=by
  rcases A2e i q with h|h
  ·exact h
  rw[A1v (by simpa using h)]at hi;cases hi
 have J:x=e:=by rw[A6e,if_pos C]at hi;exact (A28 hi).symm
 subst J;refine F.el ?_;rw[A1r gV,A6e,if_pos oV]
def Ao2 {u:PH}{v e:Value}(h:Ac u v 1 [e])(I:A9 1 [e])(Z:n<=1000000) :
 Fn0 prog 207 [v,.int .i64 n] u fun v' R=>Ac R v' 1 (List.replicate n e):=by
 obtain⟨a,c,rfl⟩:=h.opn;have K:=Ac.at' h (j:=0) (e:=e) rfl;obtain⟨b,off,rfl,L⟩:=K;refine Fn0.o func207<|G.lF n 0<|G.convI .i64 .u64 .i64 1 1 kV (Aeg oV oV)<|G.convI .i64 .u64 .i64 n (n:Int) kV (Aeg oV oV)<|G.c call250 (Aqu Z) ?_;rintro v1 u1 l1 rfl;refine G.cmpG .gtr .u64 0 0 false kV rfl rfl<|G.cmpG .gtr .u64 (n:Int) 9223372036854775807 false kV rfl (by simp only[Db,decide_eq_false_iff_not];omega)<|G.convI .u64 .i64 .u64 (n:Int) (n:Int) kV (Fk oV oV)<|G.make 34 1 16 (.string (mkS [])) n kV rfl rfl oV oV oV ?_;rintro v2 m2 O ⟨a2,rfl⟩;obtain⟨g,rfl,Q⟩:=O.some';have Y:Nat.min 1 (n-0)<=1:=Nat.min_le_left _ _;refine G.copyA 46 46 34 1 g n 0 ⟨b,off,none⟩ 1 c n 34 PH.mt (List.replicate n (.string (mkS []))) (List.replicate (Nat.min 1 (n-0)) e) kV kV kV O (I.replicate _) mV (A1t _) (fun w hp _ j x V=>?_) ?_
 ·refine Hc.cells (u:=u) (b:=b) (off:=off) (sz:=1) oV (fun i y hi=>?_) (I.replicate _) (fun g o Q=>hp g o (l1 g o Q)) j x V;have E:i<Nat.min 1 (n-0):=by
   rcases A2e i (Nat.min 1 (n-0)) with h|h
   ·exact h
   rw[A1v (by simpa using h)]at hi;cases hi
  rw[A6e,if_pos E]at hi;have hy:y=e:=(A28 hi).symm;subst hy;have:i=0:=oV;subst this;exact L
 intro m3 C;have F:=Aek (e:=e) (z:=.string (mkS [])) (n:=n) (k:=0) (q:=Nat.min 1 (n-0)) (by have:Nat.min 1 (n-0)<=n-0:=A79 _ _;omega);simp only[A42,A3q,A6t,A2w]at F C;rw[F]at C;clear F;refine G.l (ι:=Nat) (fun k=>[(7,sV (some ⟨g,0,none⟩) n n),(8,iV k)]) (fun _=>[])
  (fun k R m'=>k<=n/\(k=0->n=0)/\Af PH.mt m' (.slice (some ⟨g,0,none⟩) n n) 34 1 (List.replicate k e++List.replicate (n-k) (.string (mkS [])))) (fun k=>n-k) (Nat.min 1 n)
  ⟨A79 _ _,fun h=>by have h':min 1 n=0:=h;omega,C⟩ ?_
 rintro J k T u4 m4 l4 ⟨W,X,t⟩;by_cases E:k<n
 ·refine G.lT k n<|G.sliceFrom g 0 n n k 1 kV oV E<|G.sliceTo 1 (some ⟨g,0,none⟩) n n k kV oV ?_;have N:Nat.min k (n-k)<=k:=Nat.min_le_left _ _;have a0:Nat.min k (n-k)<=n-k:=A79 _ _;have a1:0<Nat.min k (n-k):=by show 0<min k (n-k);omega
  refine G.copyA 46 46 34 1 g n k ⟨g,0,none⟩ k n (n-k) 34 PH.mt _ (List.replicate (Nat.min k (n-k)) e) kV kV kV t (I.replicate _) mV W (Apq I N oV t) ?_;intro m5 H;rw[Aek oV]at H;generalize Nat.min k (n-k)=q at *
  exact G.p k q (k+q:Nat)<|G.b (T (k+q) _ _ _ cV l4 ⟨oV,oV,H⟩ oV)
 obtain rfl:k=n:=oV;refine G.lF k k ?_;rw[A4i,A42,A1x]at t;refine G.give PH.mt _ _ kV t (fun _=>.inl rfl) ?_;intro u5 l5 U;exact G.r (.slice (some ⟨g,0,none⟩) k k) ⟨rfl,U⟩
end
section
variable {q:Rat}
def sg (q:Rat):Int:=if q<0 then -1 else if 0<q then 1 else 0
theorem Ait (h:0<q):sg q=1:=by unfold sg;rw[if_neg (by grind),if_pos h]
theorem Ayz (h:q<0):sg q = -1:=by unfold sg;rw[if_pos h]
def At0:sg 0=0:=by simp[sg]
theorem Agk (q:Rat):(q<0/\sg q = -1)\/(q=0/\sg q=0)\/(0<q/\sg q=1):=by
 by_cases h:q<0
 ·exact .inl ⟨h,Ayz h⟩
 by_cases e:0<q
 ·exact .inr (.inr ⟨e,Ait e⟩)
 have:q=0:=by grind
 exact .inr (.inl ⟨this,by rw[this];exact At0⟩)
end
def gR (l:List Rat)(i:Nat):Rat:=l.getD i 0
def gM (M:List (List Rat))(i:Nat):List Rat:=M.getD i []


section
variable {a:Option Addr}{es:List Value}{i j k:Nat}{l:List Rat}{q r:Rat}
section rules
variable {P:Program} [A6 P] {fn:Func} {Post:Ce} {st:List KI×S} {u m:PH}
def Aea {h:BinOp}{a b:Option Addr}{n c g e:Nat}(t:TypeId)(X Y:Operand)(w:World):(eqGuard h t X Y (.slice a n c) (.slice b g e)).run P w=.ok () w:=by
 unfold eqGuard;split<;>simp
def G.nilF (e:TypeId)(a:Addr)(n c:Nat)(h:Aj P (adv P st)=.binT .eql (some (.slice e)) (.slice (some a) n c) (.slice none 0 0))(k:G P fn Post (nx (adv P st) (.bool false)) u m):G P fn Post st u m:=by
 refine G.ask h mV (fun K o g w _=>?_) k;obtain⟨t,X,Y,N,C,H,I,J⟩:=Mb g;obtain⟨F,L,E,pos,after,z⟩:=o;simp only at C;subst C;have:(Op.equal t (.slice (some a) n c) (.slice none 0 0)).run P w=.ok false w:=by
  unfold Op.equal;rw[show Op.maxDepth=9999+1 from rfl,Op.equalIn];simp[run_underlying J]
 simp[execOp,H,I,Aea,binOp,this]
def G.build0 (e:TypeId)(sz T:Nat)(z:Value)(h:Aj P (adv P st)=.buildS (some (e,sz,T,z)) 0 [])(k:∀ g n,Af m n (.slice (some ⟨g,0,none⟩) 0 0) e sz []->G P fn Post (nx (adv P st) (.slice (some ⟨g,0,none⟩) 0 0)) u n):G P fn Post st u m:=by
 refine G.big (K:=fun R L n=>L=u/\PH.le m n/\∃ g,R=.slice (some ⟨g,0,none⟩) 0 0/\Af m n (.slice (some ⟨g,0,none⟩) 0 0) e sz []) h mV (fun F op hv=>?_) (.inl fun v L n E=>E.2.1) (fun F o C w I=>?_) (fun R L n Y E=>?_)
 ·obtain⟨t,qs,rfl,_⟩:=En hv;rfl
 ·obtain⟨t,qs,N,W,hi⟩:=En C;obtain⟨U,a0,Q,pos,after,H⟩:=o;simp only at N;subst N;obtain⟨Z,i,J,X,rfl,rfl⟩:=D4 hi;obtain⟨g1,g2,O,g4⟩:=I.newM (cs:=#[]) (t:=e) mV;refine B8 (w':=w.alloc (.cells #[] e (0,0))) (v:=.slice (some ⟨w.heap.size,0,none⟩) 0 0) ?_ ⟨u,_,g1,g2,rfl,Jw _ O,_,rfl,fun _ h=>absurd h mV,.inr ⟨w.heap.size,0,[],O,rfl,rfl,A08 _,by simp[A2],mV⟩⟩;simp only[execOp,W];have V:∀ f:Nat->Value,Array.map f (Array.range 0) = #[]:=fun f=>by apply A4s;simp
  simp[Instr.buildSlice,run_underlying Z,sizeOf,typeInfo,J,newRow,Instr.fill,V]
 obtain⟨rfl,_,g,rfl,E⟩:=E;exact k g n E
end rules
def Ac.take' {u:PH}{n c sz:Nat}(h:Ac u (.slice a n c) sz es)(k:Nat)(C:k<=es.length):Ac u (.slice a k c) sz (es.take k):=by
 obtain⟨E,F,t,H,z⟩:=h;simp only[Value.slice.injEq]at t;obtain⟨rfl,_,rfl⟩:=t;refine⟨a,c,by rw[A1e,A4a C],by rw[A1e];omega,fun j e g=>?_⟩;rw[A3y]at g;split at g
 ·exact z j e g
 cases g
def AtP.at {α:Type}{R:PH->Value->α->Prop}{u:PH}{xs:List α}(h:AtP R u es xs)(g:j<xs.length):∃ e,es[j]?=some e/\R u e xs[j]:=h.2 j _ (A01 g)
def Cu (h:i<l.length):gR l i=l[i]:=by simp[gR,h]
def Xr (h:i<l.length):gR l i∈l:=by rw[Cu h];exact A09 h
def SzL (p:List Rat)(k:Nat):Prop:=∀ q∈p,Sz q k
def SzL.at {p:List Rat}(h:SzL p k)(hi:i<p.length):Sz (gR p i) k:=h _ (Xr hi)
def SzL.mono {p:List Rat}{j k:Nat}(h:SzL p j)(e:j<=k):SzL p k:=fun q g=>(h q g).mono e
theorem Acy (q:Rat):sgn q.num=sg q:=by
 rcases Agk q with ⟨h,e⟩|⟨h,e⟩|⟨h,e⟩
 ·rw[e];refine Ep ?_;have:¬ (0<=q.num):=fun g=>by have:=Rat.num_nonneg.1 g;grind
  omega
 ·subst h;rw[e];rfl
 rw[e];refine C5 ?_;have n:0<=q.num:=Rat.num_nonneg.2 (by grind);have t:q.num≠0:=fun g=>by have:=A4r.1 g;grind
 omega
def Aip :sg q=0↔q=0:=by
 rcases Agk q with ⟨h,e⟩|⟨h,e⟩|⟨h,e⟩
 ·rw[e];constructor
  ·intro g;omega
  intro g;subst g;simp at h
 ·exact⟨fun _=>h,fun _=>e⟩
 rw[e];constructor
 ·intro g;omega
 intro g;subst g;simp at h
def Anr {u:PH}{x:Value}(h:Bg u x q)(g:Sz q k)(e:k<=100000000000000):Fn0 prog 131 [x] u fun v _=>v=.int .i64 (sg q):=by
 rw[<-Acy];exact Aao h (A04 g.1 e)
def Adt {z:Int}(h:z.natAbs<1000000000):Sz (z:Rat) 1:=⟨A4 (by simpa using h),A4 mV⟩
def R5 (h:Sz q j)(e:Sz r k):Sz (q+r) (j+k+1):=by
 rw[<-Rq q r];have a1:=G7 q.num.natAbs r.den;have a2:=G7 r.num.natAbs q.den;have a3:=G7 q.den r.den;have n:=Asl (q.num.natAbs*r.den) (r.num.natAbs*q.den);have g:(q.num*(r.den:Int)+r.num*(q.den:Int)).natAbs<=q.num.natAbs*r.den+r.num.natAbs*q.den:=by
  refine A04 (Int.natAbs_add_le _ _) ?_;rw[A26,A26];simp
 have t:=C4 g;have:=h.1;have:=h.2;have:=e.1;have:=e.2;exact Jg (Rs q r) oV (by rw[A26];simp only[A1s];omega)
theorem Asu (h:Sz q k):Sz (-q) k:=⟨by rw[Ba3,A3l];exact h.1,by rw[Ba4];exact h.2⟩
def Akj (h:Sz q j)(e:Sz r k):Sz (q-r) (j+k+1):=by
 rw[Bae];exact R5 h (Asu e)
def Fx (h:Sz q j)(e:Sz r k):Sz (q*r) (j+k):=by
 rw[<-Ac8 q r];have a1:=G7 q.num.natAbs r.num.natAbs;have a3:=G7 q.den r.den;have:=h.1;have:=h.2;have:=e.1;have:=e.2;exact Jg (Rs q r) (by rw[A26];omega) (by rw[A26];simp only[A1s];omega)
end
section
variable {M:List (List Rat)}{i j:Nat}{q:Rat}
structure F4 where
 b:Bool
 a:Option Addr
 n:Nat
 c:Nat
 b':Bool
 a':Option Addr
 n':Nat
 c':Nat
def fv (f:F4):Value:=.agg #[.bool f.b,.slice f.a f.n f.c,.bool f.b',.slice f.a' f.n' f.c']
def fc (f:F4):List SV:=[.v (.bool f.b),.v (.slice f.a f.n f.c),.v (.bool f.b'),.v (.slice f.a' f.n' f.c')]
def Bg.opF {u:PH}{v:Value}(h:Bg u v q):∃ f,v=fv f:=by
 obtain⟨b,a,n,c,b',e,m,g,rfl⟩:=h.opn;exact⟨⟨b,a,n,c,b',e,m,g⟩,rfl⟩
def Bag.perm {l l':List Arr}(h:l.Perm l'):∀ {m:PH},Bag m l->Bag m l':=by
 induction h with
 |nil=>exact fun h=>h
 |cons x _ ih=>exact fun⟨m0,e,g⟩=>⟨m0,e,ih g⟩
 |swap x y l =>
  rintro m ⟨F,u,m0,t,n⟩;obtain⟨E,z,C,_⟩:=At.swap u t;exact⟨E,C,m0,z,n⟩
 |trans _ _ e g=>exact fun h=>g (e h)
def Kb {q:List Rat}(hi:i<M.length):gM (M.set i q) j=if i=j then q else gM M j:=by
 unfold gM;simp only[A02,A1z];split
 ·rename_i e;subst e;simp
 rfl
def SzM (M:List (List Rat))(k:Nat):Prop:=∀ i j,i<M.length->j<(gM M i).length->Sz (gR (gM M i) j) k
def SzM.mono {M:List (List Rat)}{j k:Nat}(h:SzM M j)(e:j<=k):SzM M k:=fun a b g m=>(h a b g m).mono e
def Aht {l:List Rat}(hi:i<l.length):gR (l.set i q) j=if i=j then q else gR l j:=by
 unfold gR;simp only[A02,A1z];split
 ·rename_i e;subst e;simp
 rfl
def Ch (h:i<M.length):gM M i=M[i]:=by simp[gM,h]
def Arz {q r:Rat}{j k:Nat}(h:Sz q j)(m:Sz r k)(z:r≠0):Sz (q/r) (j+k):=by
 rw[<-Abt q r];have a1:=G7 q.num.natAbs r.den;have a3:=G7 q.den r.num.natAbs;have C:=h.1;have E:=h.2;have F:=m.1;have H:=m.2;have u:r.num≠0:=fun e=>z (A4r.1 e);have n:(q.den:Int)≠0:=by have:=q.den_pos;omega
 have c1:nl (q.num*(r.den:Int)).natAbs<=j+k:=by rw[A26];simp only[A1s];omega
 have c2:nl ((q.den:Int)*r.num).natAbs<=j+k:=by rw[A26];simp only[A1s];omega
 rcases Int.lt_or_lt_of_ne (A8l n u) with t|g
 ·have e:Rat.divInt (q.num*(r.den:Int)) ((q.den:Int)*r.num)=Rat.divInt (-(q.num*(r.den:Int))) (-((q.den:Int)*r.num)):=(Rat.neg_divInt_neg _ _).symm;rw[e];exact Jg oV (by rw[A3l];exact c1) (by rw[A3l];exact c2)
 exact Jg g c1 c2
end
def zF:Value:=.agg #[.bool false,.slice none 0 0,.bool false,.slice none 0 0]
def Q3:Sz 0 1:=Adt (z:=0) fV
def Og (q:Rat):Bool:=decide (q.num.natAbs<10^100)&&decide (q.den<10^100)
def Cz:∀ {k n:Nat} (_:0<k) (_:n<10^k),Lib.nDigits n<=k
 |0,n,hk,h=>oV
 |k+1,n,hk,h=>by
  by_cases g:n<10
  ·rw[Lib.nDigits_small g];omega
  rw[Lib.nDigits_big g];have e:0<k:=by
   rcases A2a k with h0|h0
   ·subst h0;simp at h;omega
   exact h0
  have:=Cz (k:=k) (n:=n/10) e (by rw[A3b oV,<-A2d];exact h);omega
def Uo {q:Rat}(h:Og q=true):Tx q/\Sz q 12:=by
 simp only[Og,A1m,decide_eq_true_eq]at h;have g:=Cz oV h.1;have j:=Cz oV h.2;have e:(10:Nat)^100<=1000000000^12:=fV
 exact⟨⟨oV,oV⟩,A4 (A2s h.1 e),A4 (A2s h.2 e)⟩
section
section rules
variable [Cl] [Co] [Pu] {P:Program} [A6 P] {fn:Func} {Post:Ce} {st:List KI×S} {u m:PH}
def G.buildM (e:TypeId)(sz Z:Nat)(z:Value)(es:List Value)(h:Aj P (adv P st)=.buildS (some (e,sz,Z,z)) es.length (es.zipIdx.map fun p=>(p.2,p.1)))(F:A9 sz es)(a2:z.cells.size=sz)(T:0<sz)(Q:0<es.length)(hb:es.length*sz<=16777216)
 (k:∀ g n,Af m n (.slice (some ⟨g,0,none⟩) es.length es.length) e sz es->G P fn Post (nx (adv P st) (.slice (some ⟨g,0,none⟩) es.length es.length)) u n):G P fn Post st u m:=by
 refine G.big (K:=fun Y U n=>U=u/\PH.le m n/\∃ g,Y=.slice (some ⟨g,0,none⟩) es.length es.length/\Af m n (.slice (some ⟨g,0,none⟩) es.length es.length) e sz es) h mV (fun H op hv=>?_) (.inl fun v U n E=>E.2.1) (fun H o C w L=>?_) (fun Y U n a1 E=>?_)
 ·obtain⟨t,qs,rfl,_⟩:=En hv;rfl
 ·obtain⟨t,qs,V,e2,hi⟩:=En C;obtain⟨a0,a3,X,pos,after,I⟩:=o;simp only at V;subst V;obtain⟨hu,i,N,O,rfl,rfl⟩:=D4 hi;obtain⟨g1,g2,W,g4⟩:=L.newM (cs:=(A2 es).toArray) (t:=e) (by simpa using Fu F);have J:=Ba F;have R:es.length*i.size≠0:=by have:=A51 Q T;omega
  have j:=Sn es 0 ((Array.range (es.length*i.size)).map (z.cells[· % z.cells.size]!)) F mV;have e0:((Array.range (es.length*i.size)).map (z.cells[· % z.cells.size]!)).toList.drop (es.length*i.size) = []:=by
   apply A9o;simp
  simp only[A58,A53,A3q,A2w,e0,A1x]at j;refine B8 (w':=w.alloc (.cells (A2 es).toArray e (0,0))) (v:=.slice (some ⟨w.heap.size,0,none⟩) es.length es.length) ?_ ⟨u,_,g1,g2,rfl,Jw _ W,_,rfl,F,.inr ⟨w.heap.size,es.length,[],W,by rw[A1x],rfl,A08 _,by rw[A1x,J],mV⟩⟩;simp only[execOp,e2];simp[Instr.buildSlice,run_underlying hu,sizeOf,typeInfo,zeroValue,N,O,R,j,newRow,show ¬ 16777216<es.length*i.size by omega]
 obtain⟨rfl,_,g,rfl,E⟩:=E;exact k g n E
end rules
end
section
variable [Cl] [Co] [Pu]
section rules
variable {P:Program} [A6 P] {fn:Func} {Post:Ce} {st:List KI×S} {u m:PH}
def Aei {e:Operand->Value}{o:Op}{t:TypeId}{x:Value}{f:Nat}(h:Bc P e o=.fieldA t x f):∃ X,o=.fieldAddr t X f/\e X=x:=by
 cases o<;>simp only[Bc]at h<;>try cases h
 any_goals ((repeat' split at h)<;>cases h;done)
 exact⟨_,rfl,rfl⟩
def G.fieldA (t:TypeId)(b off f C:Nat)(h:Aj P (adv P st)=.fieldA t (.pointer (some ⟨b,off,none⟩)) f)(g:Nw P t f=some C)(k:G P fn Post (nx (adv P st) (.pointer (some ⟨b,off+C,none⟩))) u m):G P fn Post st u m:=by
 refine G.ask h mV (fun I o j w _=>?_) k;obtain⟨X,e,H⟩:=Aei j;obtain⟨F,J,E,pos,after,z⟩:=o;simp only at e;subst e;unfold Nw at g;split at g
 ·rename_i fs hfs;split at g
  ·rename_i fd hfd;split at g
   ·rename_i n hn;simp only[A1f]at g;subst g;simp[execOp,Instr.fieldAt,run_underlying hfs,hfd,Instr.sureAddr,H,fieldPlace,Bf hn,Ed]
   cases g
  cases g
 cases g
def G.remZ (x y z:Int)(h:Aj P (adv P st)=.bin .rem (.int .i64 x) (.int .i64 y))(e:0<y)(n:y<=9223372036854775807)(g:x.tmod y=z)
 (k:G P fn Post (nx (adv P st) (.int .i64 z)) u m):G P fn Post st u m:=by
 refine G.bin _ h C0 (fun t w=>?_) k;have j:¬ y=0:=oV
 have C:-y<z/\z<y:=by
  rw[<-g];have a1:=Baj x e;have a2:=Bak x e;exact⟨a2,a1⟩
 simp[binOp,Op.intDiv,j,g]
end rules
end
section
variable [Cl] [Pu] [Co]
variable {P:Program} [A6 P] {fn:Func} {Post:Ce} {st:List KI×S} {u m:PH}
def G.f (t:TypeId)(b off f fo:Nat)(k:G P fn Post (nx (adv P st) (.pointer (some ⟨b,off+fo,none⟩))) u m)(h:Aj P (adv P st)=.fieldA t (.pointer (some ⟨b,off,none⟩)) f:=by kernel_rfl)(hf:Nw P t f=some fo:=by kernel_rfl):G P fn Post st u m:=G.fieldA t b off f fo h hf k
end
section
variable {k:Nat}{m0:PH}
def Ari (m:PH):m.or PH.mt=m:=by
 funext g;unfold PH.or;split
 ·rename_i o e;rw[e]
 rename_i e;rw[e];rfl
def Ajy (m0 m:PH){g:Nat}(o:Obj)(h:m0 g=none):m0.or (m.upd g o)=(m0.or m).upd g o:=by
 funext k
 by_cases e:k=g
 ·subst e;rw[PH.or_r h,Ab,Ab]
 rw[Ad _ _ e];unfold PH.or;split
 ·rfl
 rw[Ad _ _ e]
def Bag.or {l':List Arr}{j:PH}(t:Bag j l'):∀ {l:List Arr} {m:PH},Bag m l->(∀ g,m g≠none->j g=none)->Bag (j.or m) (l++l')
 |[],m,h,hd=>by
  exact Bag.or_junk t hd
 |x::l,m,⟨m0,C,hl⟩,hd=>by
  obtain⟨H,C⟩:=C;rcases C with ⟨n,E,rfl⟩|⟨g,cap,rest,n,rfl,E,I,J,K⟩
  ·exact⟨_,⟨H,.inl ⟨n,E,rfl⟩⟩,Bag.or t hl hd⟩
  have F:j g=none:=hd g (by rw[Ab];simp);refine⟨j.or m0,⟨H,.inr ⟨g,cap,rest,by rw[PH.or_r F];exact n,Ajy _ _ _ F,E,I,J,K⟩⟩,Bag.or t hl (fun k z=>hd k ?_)⟩;by_cases e:k=g
  ·subst e;rw[n]at z;exact absurd rfl z
  rw[Ad _ _ e];exact z
where
 Bag.or_junk {l':List Arr} {m' m:PH} (h':Bag m' l') (hd:∀ g,m g≠none->m' g=none):Bag (m'.or m) (l'):=by
  induction l' generalizing m' with
  |nil=>trivial
  |cons x l ih =>
   obtain⟨m0,⟨ox,hx⟩,hl⟩:=h';rcases hx with ⟨x1,x2,rfl⟩|⟨g,cap,rest,x1,rfl,x2,x3,x4,x5⟩
   ·exact⟨_,⟨ox,.inl ⟨x1,x2,rfl⟩⟩,ih hl hd⟩
   ·have hg:m g=none:=by
     cases e:m g with
     |none=>rfl
     |some o=>have:=hd g (by rw[e];simp);rw[Ab]at this;cases this
    refine⟨m0.or m,⟨ox,.inr ⟨g,cap,rest,by rw[PH.or_r x1];exact hg,?_,x2,x3,x4,x5⟩⟩,ih hl (fun k hk=>?_)⟩
    ·funext k
     by_cases e:k=g
     ·subst e;rw[Ab,PH.or_l (Ab _ _ _)]
     ·rw[Ad _ _ e];unfold PH.or;rw[Ad _ _ e]
    ·have:=hd k hk;by_cases e:k=g
     ·subst e;rw[Ab]at this;cases this
     ·rw[Ad _ _ e]at this;exact this
def Af.list {m0 m u:PH}{v:Value}{t:TypeId}{sz:Nat}{es:List Value}(h:Af m0 m v t sz es)(hl:PH.le m u):Ac u v sz es:=by
 obtain⟨ho,h⟩:=h;rcases h with ⟨rfl,rfl,_⟩|⟨g,cap,rest,_,rfl,rfl,hcap,hlen,_⟩
 ·exact Ac.nil _ _ _ _
 refine⟨_,_,rfl,hcap,fun j e hj=>⟨g,0,rfl,fun i x hx=>⟨_,_,_,hl _ _ (Ab _ _ _),?_⟩⟩⟩;rw[A3j,A2w];have:=Ju ho hj hx;rw[A1r (by obtain⟨h,_⟩:=A05.1 this;exact h)];exact this
def Bag.list {l:List Arr}{m u:PH}(h:Bag m l)(hl:PH.le m u)(i:Nat){x:Arr}(hi:l[i]?=some x):Ac u x.v x.sz x.es:=by
 obtain⟨m0,hx,_⟩:=h.focus i hi;exact Af.list hx hl
section rules
variable [Cl] [Co] [Pu] {P:Program} [A6 P] {fn:Func} {Post:Ce} {st:List KI×S} {u m:PH}
def G.callA (f:Nat)(args:List Value){mf mc:PH}{R:Value->PH->PH->Prop}(h:Aj P (adv P st)=.call f args)(E:Vl (adv P st)=true)(Y:∀ args w,(callFunc f args).run P w=.ok (.enter f args) w)(hm:m=mf.or mc)(C:Hp mf mc)(c:Ag P f args u mc R)
 (k:∀ v n j,PH.le u n->R v n j->Hp mf j->G P fn Post (nx (adv P st) v) n (mf.or j)):G P fn Post st u m:=by
 subst hm;refine G.bigN (K:=fun v n L=>∃ j,L=mf.or j/\R v n j/\Hp mf j) h mV E Dv (fun T o z w t=>?_) (fun v n L U V=>?_)
 ·have H:Bv u mc w:=t.less (fun g o F=>by
   cases hx:mf g with
   |some o'=>have:=(C g).resolve_left (by rw[hx];simp);rw[this]at F;cases F
   |none=>rw[PH.or_r hx];exact F)
  refine Hq z Y w _ (Calls.mono (c w H) fun e w' Z=>?_);obtain⟨v,n,j,N,O,J,Q⟩:=Z;obtain⟨g1,g2⟩:=t.frameM C O J;refine⟨v,N,n,mf.or j,g1,g2,j,rfl,Q,fun g=>?_⟩;cases hx:mf g with
  |none=>exact .inl rfl
  |some o =>
   right;have I:=Aw (t.pm g o (PH.or_l hx));exact J.ms g I ((C g).resolve_left (by rw[hx];simp))
 obtain⟨j,rfl,X,W⟩:=V;exact k v n j U X W
def G.callP (f:Nat)(args:List Value){mf mc:PH}{R:Value->PH->PH->Prop}(h:Aj P (adv P st)=.call f args)(I:Pu.b=true)(Y:∀ args w,(callFunc f args).run P w=.ok (.enter f args) w)(hm:m=mf.or mc)(C:Hp mf mc)(c:Ag P f args u mc R)
 (k:∀ v n j,PH.le u n->R v n j->Hp mf j->G P fn Post (nx (adv P st) v) n (mf.or j)):G P fn Post st u m:=by
 subst hm;refine G.bigP (K:=fun v n L=>∃ j,L=mf.or j/\R v n j/\Hp mf j) h mV I Dv (fun T o z w t=>?_) (fun v n L U V=>?_)
 ·have F:Bv u mc w:=t.less (fun g o E=>by
   cases hx:mf g with
   |some o'=>have:=(C g).resolve_left (by rw[hx];simp);rw[this]at E;cases E
   |none=>rw[PH.or_r hx];exact E)
  refine Hq z Y w _ (Calls.mono (c w F) fun e w' Z=>?_);obtain⟨v,n,j,N,O,J,Q⟩:=Z;obtain⟨g1,g2⟩:=t.frameM C O J;refine⟨v,N,n,mf.or j,g1,g2,j,rfl,Q,fun g=>?_⟩;cases hx:mf g with
  |none=>exact .inl rfl
  |some o =>
   right;have H:=Aw (t.pm g o (PH.or_l hx));exact J.ms g H ((C g).resolve_left (by rw[hx];simp))
 obtain⟨j,rfl,X,W⟩:=V;exact k v n j U X W
def G.giveP {ma sm:PH}(h:F2 (ctl P 100 st).1=true)(H:m=ma.or sm)(W:Hp ma sm)(h0:∀ g,Post.m0 g=none\/sm g≠none)(k:∀ V,PH.le u V->PH.le ma V->G P fn Post (ctl P 100 st) V sm):G P fn Post st u m:=by
 subst H;refine⟨L3 100 st ?_⟩;rw[Sym.ofNo h];intro c ρ a w J E;have N:∀ g o,ma g=some o->u g=none:=fun g o n=>(E.gd.ap g).resolve_right (by rw[PH.or_l n];simp);have K:∀ g o,sm g=some o->ma g=none:=fun g o n=>(W g).resolve_right (by rw[n];simp);have I:∀ g o,ma g=some o->c.w0.heap.size<=g:=by
  intro g o n;rcases A2e g c.w0.heap.size with R|O
  ·have T:c.m0 g=none:=by
    rw[J];rcases h0 g with e|e
    ·exact e
    cases hs:sm g with
    |none=>exact absurd hs e
    |some o'=>have:=K g o' hs;rw[this]at n;cases n
   have:=E.gr.ms g R T;rw[PH.or_l n]at this;cases this
  exact O
 have Q:PH.le u (ma.or u):=fun g o n=>by
  cases t:ma g with
  |none=>rw[PH.or_r t];exact n
  |some o'=>have:=N g o' t;rw[this]at n;cases n
 have X:=(k (ma.or u) Q (fun g o n=>PH.or_l n)).out;rw[Sym.ofNo h]at X;refine X c ρ a w J ⟨E.sz,E.tm,E.df.of fun r e _ hu H=>(by
  have F:ma r=none:=(by
   cases t:ma r with
   |none=>rfl
   |some o=>rw[PH.or_l t]at H;cases H)
  rw[PH.or_r F]at H;exact⟨e,by rw[PH.or_r F];exact hu,H⟩),fun U b hb=>?_,E.inj,E.lv,⟨fun C o n=>?_,fun C o n=>?_,fun C=>?_,fun C cs t' fr j z n hj=>?_⟩,⟨E.gr.sz,E.gr.old,fun C n=>?_,fun C n H=>?_,E.gr.io,E.gr.dr⟩⟩
 ·obtain⟨Y,Z,e3,L⟩:=E.box U b hb;have F:ma (ρ U)=none:=by
   cases t:ma (ρ U) with
   |none=>rfl
   |some o=>rw[PH.or_l t]at L;cases L
  rw[PH.or_r F]at L;exact⟨Y,Z,by rw[PH.or_r F];exact e3,L⟩
 ·cases t:ma C with
  |some o'=>rw[PH.or_l t]at n;cases n;exact E.gd.pm C _ (PH.or_l t)
  |none=>rw[PH.or_r t]at n;exact E.gd.pu C o n
 ·exact E.gd.pm C o (by rw[PH.or_r (K C o n)];exact n)
 ·cases t:ma C with
  |some o'=>right;exact (W C).resolve_left (by rw[t];simp)
  |none =>
   rw[PH.or_r t];have:=E.gd.ap C;rw[PH.or_r t]at this;exact this
 ·cases t:ma C with
  |some o' =>
   rw[PH.or_l t,<-n];exact (E.gd.pm C _ (PH.or_l t)).symm
  |none=>rw[PH.or_r t];exact E.gd.cl C cs t' fr j z n hj
 ·have t:ma C=none:=by
   cases t:ma C with
   |none=>rfl
   |some o=>have:=I C o t;omega
  rw[PH.or_r t];exact E.gr.us C n
 have:=E.gr.ms C n H;cases t:ma C with
 |some o=>have:=I C o t;omega
 |none=>rw[PH.or_r t]at this;exact this
end rules
structure Src where
 g:Nat
 a:Option Addr
 n:Nat
 c:Nat
def Src.ptr (s:Src):Value:=.pointer (some ⟨s.g,0,none⟩)
def Src.el (s:Src)(k:Nat):Value:=.agg #[.slice s.a s.n s.c,.int .i64 k]
def Src.M (s:Src)(k:Nat):PH:=PH.mt.upd s.g (.cells #[.slice s.a s.n s.c,.int .i64 k] 102 (0,0))
def Src.arr (s:Src)(k:Nat):Arr:=⟨.slice (some ⟨s.g,0,none⟩) 1 1,102,2,[s.el k]⟩
def Src.el_ok (s:Src)(k:Nat):A9 2 [s.el k]:=by
 intro x e;simp at e;subst e;exact⟨rfl,fun y g=>by simp[Src.el,Value.cells]at g;rcases g with rfl|rfl<;>rfl⟩
def Src.at {s:Src}(h:m0 s.g=none):(s.arr k).At m0 (m0.or (s.M k)):=by
 refine⟨s.el_ok k,.inr ⟨s.g,1,[],h,?_,rfl,A08 _,rfl,mV⟩⟩;unfold Src.M;rw[Ajy _ _ _ h,Ari];rfl
def Src.split {s:Src}{m0 m:PH}(h:(s.arr k).At m0 m):m=m0.or (s.M k)/\m0 s.g=none:=by
 obtain⟨_,h⟩:=h;rcases h with ⟨h,_,_⟩|⟨g,cap,rest,e,rfl,j,z,n,C⟩
 ·simp[Src.arr]at h
 simp only[Src.arr,Value.slice.injEq,A1f,Addr.mk.injEq,and_true]at j;obtain⟨rfl,_,rfl⟩:=j;have t:rest = []:=by
  simp[Src.arr,A2,Src.el,Value.cells]at n;exact n
 subst t;refine⟨?_,e⟩;unfold Src.M;rw[Ajy _ _ _ e,Ari];rfl
def Src.apart {s:Src}(h:m0 s.g=none):Hp m0 (s.M k):=fun g=>by
 by_cases e:g=s.g
 ·subst e;exact .inl h
 right;unfold Src.M;rw[Ad _ _ e];rfl
structure J0 (u:PH)(s:Src)(ts:List Int):Prop where
 list:Ac u (.slice s.a s.n s.c) 1 (Fc ts)
 n:s.n=ts.length
 le:ts.length<=600
 lo:∀ t∈ts,-9223372036854775808<=t
 hi:∀ t∈ts,t<=9223372036854775807
def J0.mono {u e:PH}{s:Src}{ts:List Int}(h:J0 u s ts)(g:PH.le u e):J0 e s ts:=⟨h.list.mono g,h.n,h.le,h.lo,h.hi⟩
def Src.cell0 (s:Src)(k:Nat):ElP (s.M k) s.g (0+0) (.slice s.a s.n s.c):=fun i y e=>by
 match i,e with
 |0,e=>simp[Value.cells]at e;subst e;exact⟨_,_,_,Ab _ _ _,rfl⟩
def Src.cell1 (s:Src)(k:Nat):ElP (s.M k) s.g (0+1) (.int .i64 k):=fun i y e=>by
 match i,e with
 |0,e=>simp[Value.cells]at e;subst e;exact⟨_,_,_,Ab _ _ _,rfl⟩
end
section
variable [Cl] [Pu] [Co]
variable {P:Program} [A6 P] {fn:Func} {Post:Ce} {st:List KI×S} {u m:PH}
def G.A {f:Nat}{args:List Value}{R:Value->PH->PH->Prop}(hc:∀ args w,(callFunc f args).run P w=.ok (.enter f args) w)(c:Ag P f args u m R)(k:∀ v u' mc',PH.le u u'->R v u' mc'->Hp PH.mt mc'->G P fn Post (nx (adv P st) v) u' (PH.mt.or mc'))(h:Aj P (adv P st)=.call f args:=by kernel_rfl)(hdr:Vl (adv P st)=true:=by kernel_rfl):G P fn Post st u m:=G.callA f args h hdr hc (By _).symm (Ef _) c k
def G.D {f:Nat}{args:List Value}{mf mc:PH}{R:Value->PH->PH->Prop}(hc:∀ args w,(callFunc f args).run P w=.ok (.enter f args) w)(hd:Hp mf mc)(c:Ag P f args u mc R)(k:∀ v u' mc',PH.le u u'->R v u' mc'->Hp mf mc'->G P fn Post (nx (adv P st) v) u' (mf.or mc'))(h:Aj P (adv P st)=.call f args:=by kernel_rfl)(hdr:Vl (adv P st)=true:=by kernel_rfl):G P fn Post st u (mf.or mc):=G.callA f args h hdr hc rfl hd c k
end
section
open Go.MapKept
variable {et t:TypeId}{g:Nat}{o:Obj}{w:World}
structure Zk (P:Program)(kt:TypeId){κ:Type}[DecidableEq κ](enc:κ->Value):Prop where
 eq:∀ a b w,(Op.equal kt (enc a) (enc b)).run P w=.ok (decide (a=b)) w
 now:∃ d,P.underlying kt=some d/\((∀ a b,Instr.sameNow d (enc a) (enc b)=none)\/(∀ a b,Instr.sameNow d (enc a) (enc b)=some (decide (a=b))))
 chk:∀ e a w,(Instr.checkKey e 10000 kt (enc a)).run P w=.ok () w
 bits:∀ a,Instr.sameBits 10000 (enc a) (enc a)=true
 inj:∀ a b,enc a=enc b->a=b
def Hu {κ:Type}(enc:κ->Value)(o:Obj)(l:List (κ×Value)):Prop :=
 ∃ es clock,o=.map es clock/\es.toList.map (fun e=>(e.key,e.val))=l.map (fun p=>(enc p.1,p.2))/\Stamped es clock
def Ik {κ:Type}[DecidableEq κ](a:κ):List (κ×Value)->Option Value
 |[]=>none
 |(b,v)::l=>if a=b then some v else Ik a l
def Lr {κ:Type}[DecidableEq κ](a:κ)(x:Value):List (κ×Value)->List (κ×Value)
 |[]=>[(a,x)]
 |(b,v)::l=>if a=b then (b,x)::l else (b,v)::Lr a x l
def Awn {κ:Type}[DecidableEq κ](a:κ):List (κ×Value)->List (κ×Value)
 |[]=>[]
 |(b,v)::l=>if a=b then l else (b,v)::Awn a l
def Iw {κ:Type}[DecidableEq κ](a:κ):List (κ×Value)->Nat->Option (Nat×Value)
 |[],_=>none
 |(b,v)::l,i=>if a=b then some (i,v) else Iw a l (i+1)
def Alm (z:Value)(r:Option Value)(ok:Bool):Value:=match r with|some v=>(if ok then .tuple #[v,.bool true] else v)|none=>(if ok then .tuple #[z,.bool false] else z)
def M4 {α β:Type}{f:α->β}{l:List α}(h:(l.map f).Nodup):l.Nodup:=(List.pairwise_map.1 h).imp fun h e=>h (by rw[e])
section
variable {κ:Type} [DecidableEq κ] {enc:κ->Value}
def Aah (a:κ):∀ (l:List (κ×Value)) (i:Nat),(Iw a l i).map (·.2)=Ik a l
 |[],_=>rfl
 |(b,v)::l,i=>by
  unfold Iw Ik;split
  ·rfl
  exact Aah a l (i+1)
def Xc {a:κ}:∀ {l:List (κ×Value)} {i:Nat},Iw a l i=none->a∉l.map (·.1)
 |[],_,_=>mV
 |(b,v)::l,i,h=>by
  unfold Iw at h;split at h
  ·cases h
  rename_i hne;simp only[A2u,A1g,not_or];exact⟨hne,Xc h⟩
def Yy {a:κ}:∀ {l:List (κ×Value)} {i j:Nat} {v:Value},Iw a l i=some (j,v)->i<=j/\l[j-i]?=some (a,v)/\(∀ x,Lr a x l=l.set (j-i) (a,x))/\Awn a l=l.eraseIdx (j-i)
 |[],_,_,_,h=>by cases h
 |(b,w)::l,i,j,v,h=>by
  unfold Iw at h;split at h
  ·rename_i e;simp only[A1f,A2i]at h;obtain⟨rfl,rfl⟩:=h;subst e;exact⟨A08 _,mV,fun x=>by simp[Lr],by simp[Awn]⟩
  rename_i hne;obtain⟨z,m,n,u⟩:=Yy h;have e:j-i=(j-(i+1))+1:=oV;refine⟨oV,by rw[e,A7r];exact m,fun x=>?_,?_⟩
  ·rw[e,A2j,<-n x];simp[Lr,hne]
  rw[e,List.eraseIdx_cons_succ,<-u];simp[Awn,hne]
def Agn {a:κ}:∀ {l:List (κ×Value)} (x:Value),a∉l.map (·.1)->Lr a x l=l++[(a,x)]
 |[],_,_=>rfl
 |(b,v)::l,x,h=>by
  simp only[A2u,A1g,not_or]at h;unfold Lr;rw[if_neg h.1,Agn x h.2];rfl
def M8 {a:κ}:∀ {l:List (κ×Value)},Ik a l=none↔a∉l.map (·.1)
 |[]=>by simp[Ik]
 |(b,v)::l=>by
  unfold Ik;split
  ·rename_i e;simp[e]
  rename_i hne;rw[M8];simp[hne]
variable {P:Program} {kt:TypeId}
def Oj (K:Zk P kt enc)(a:κ)(w:World):∀ (es:List MapEntry) (l:List (κ×Value)) (i:Nat),es.map (fun e=>(e.key,e.val))=l.map (fun p=>(enc p.1,p.2))->(Instr.findAsking kt (enc a) es i).run P w=.ok (Iw a l i) w
 |[],[],i,_=>by simp[Instr.findAsking,Iw]
 |[],_::_,_,h=>by simp at h
 |_::_,[],_,h=>by simp at h
 |e::es,(b,v)::l,i,h=>by
  simp only[A2u,A3g,A2i]at h;obtain⟨⟨m,n⟩,u⟩:=h;unfold Instr.findAsking;simp only[Sem.run_bind,m,K.eq,Result.andThen_ok];unfold Iw;by_cases j:a=b
  ·simp[j,n]
  simp only[decide_eq_false j,A4z,if_false,if_neg j];exact Oj K a w es l (i+1) u
def Xp {d:TypeDesc}(m:∀ a b,Instr.sameNow d (enc a) (enc b)=some (decide (a=b)))(a:κ):∀ (es:List MapEntry) (l:List (κ×Value)) (i:Nat),es.map (fun e=>(e.key,e.val))=l.map (fun p=>(enc p.1,p.2))->Instr.findNow d (enc a) es i=some (Iw a l i)
 |[],[],i,_=>by simp[Instr.findNow,Iw]
 |[],_::_,_,h=>by simp at h
 |_::_,[],_,h=>by simp at h
 |e::es,(b,v)::l,i,h=>by
  simp only[A2u,A3g,A2i]at h;obtain⟨⟨n,u⟩,z⟩:=h;unfold Instr.findNow Iw;rw[n,m];by_cases j:a=b
  ·simp[j,u]
  simp only[decide_eq_false j,if_neg j];exact Xp m a es l (i+1) z
def U8 (K:Zk P kt enc)(a:κ)(w:World){es:List MapEntry}{l:List (κ×Value)}(h:es.map (fun e=>(e.key,e.val))=l.map (fun p=>(enc p.1,p.2))):(Instr.findKey kt (enc a) es).run P w=.ok (Iw a l 0) w:=by
 obtain⟨d,m,j⟩:=K.now;unfold Instr.findKey;simp only[Sem.run_bind,run_underlying m,Result.andThen_ok];rcases j with j|j
 case inr=>rw[Xp j a es l 0 h];rfl
 cases es with
 |nil =>
  cases l with
  |nil=>simp[Instr.findNow,Iw]
  |cons=>simp at h
 |cons e es =>
  have n:Instr.findNow d (enc a) (e::es) 0=none:=by
   cases l with
   |nil=>simp at h
   |cons p l =>
    simp only[A2u,A3g,A2i]at h;unfold Instr.findNow;rw[h.1.1,j]
  rw[n];exact Oj K a w _ _ _ h
def Hu.empty:Hu enc (.map #[] 0) []:=⟨#[],0,rfl,mV,stamped_empty 0⟩
def Hu.nodup {l:List (κ×Value)}(h:Hu enc o l):(l.map (·.1)).Nodup:=by
 obtain⟨es,e,rfl,n,u⟩:=h;have m:es.toList.map (·.key)=l.map (fun p=>enc p.1):=by
  have:=congrArg (List.map (·.1)) n;simpa[Function.comp_def] using this
 have j:=u.2.2;rw[m]at j;have:l.map (fun p=>enc p.1)=(l.map (·.1)).map enc:=by simp[Function.comp_def]
 rw[this]at j;exact M4 j
def Ahy (K:Zk P kt enc)(u:P.underlying t=some (.map kt et)){z:Value}(C:∀ w,(zeroValue et).run P w=.ok z w){l:List (κ×Value)}(m:w.heap[g]?=some o)(n:Hu enc o l)(a:κ)(ok:Bool) :
 (Instr.lookup t (.map (some g)) (enc a) ok).run P w=.ok (Alm z (Ik a l) ok) w:=by
 obtain⟨es,e,rfl,h,E⟩:=n;have j:=U8 K a w h;rw[<-Aah a l 0];simp only[Instr.lookup,Sem.run_bind,run_underlying u,Result.andThen_ok,MapKept.run_getObj_map m,K.chk,Sem.run_pure,j];cases Iw a l 0 with
 |none=>simp only[Alm,Option.map_none,Sem.run_bind,C,Result.andThen_ok,Sem.run_pure]
 |some p=>simp only[Alm,A4c,Sem.run_bind,Sem.run_pure,Result.andThen_ok]
def Aij (K:Zk P kt enc)(W:P.underlying t=some (.map kt et)){l:List (κ×Value)}(I:w.heap[g]?=some o)(Z:Hu enc o l)(a:κ)(x:Value) :
 ∃ o',Hu enc o' (Lr a x l)/\(Instr.mapUpdate t (.map (some g)) (enc a) x).run P w=.ok () { w with heap:=w.heap.setIfInBounds g o' }:=by
 obtain⟨es,m,rfl,u,V⟩:=Z;have H:=U8 K a w u;have T:es.toList.length=l.length:=by simpa using congrArg List.length u
 cases hfk:Iw a l 0 with
 |none =>
  rw[hfk]at H;have U:=Xc hfk;refine⟨.map (es.push { key:=enc a,val:=x,born:=m }) (m+1),⟨_,_,rfl,?_,stamped_push V (fun e Y R=>?_)⟩,?_⟩
  ·rw[Agn x U];simp only[Array.toList_push,A1i,u,A2u,A7m]
  ·obtain⟨j,X,rfl⟩:=A3d.1 Y;have:=congrArg (fun t=>t[j]?) u;simp only[A1a,A01 X,A4c]at this;rw[A01 oV]at this;simp only[A4c,A1f,A2i]at this;rw[this.1]at R;exact U (A1b.2 ⟨_,A09 oV,K.inj _ _ R⟩)
  simp only[Instr.mapUpdate,Sem.run_bind,run_underlying W,Result.andThen_ok,MapKept.run_getObj_map I,K.chk,H];exact MapKept.run_setObj_map _ I
 |some p =>
  obtain⟨j,v⟩:=p;rw[hfk]at H;obtain⟨_,J,Q,_⟩:=Yy hfk;rw[A6t]at J Q;have N:j<l.length:=(A05.1 J).1;have L:j<es.toList.length:=oV;obtain⟨F,z⟩:∃ F,es.toList[j]?=some F:=⟨_,A01 L⟩;have C:F.key=enc a:=by
   have:=congrArg (fun t=>t[j]?) u;simp only[A1a,z,A4c,J,A1f,A2i]at this;exact this.1
  have n:es[j]?=some F:=by rw[<-A6u];exact z
  refine⟨.map (es.modify j fun e=>{ e with key:=enc a,val:=x }) m,⟨_,_,rfl,?_,stamped_modify V j _ (fun _ _=>rfl) (fun e _ h=>?_)⟩,?_⟩
  ·rw[Q x,A2g];apply A4g;intro i;simp only[A1a,A6u,A8c,A1z];have hi:=congrArg (fun t=>t[i]?) u;simp only[A1a,A6u]at hi;by_cases e:j=i
   ·subst e;rw[if_pos rfl,if_pos rfl,n,if_pos (by simpa using N)];rfl
   rw[if_neg e,if_neg e];exact hi
  ·rw[n]at h;cases h;exact C.symm
  have E:((es[j]?).map (·.key)).getD (enc a)=enc a:=by rw[n];simp[C]
  simp only[Instr.mapUpdate,Sem.run_bind,run_underlying W,Result.andThen_ok,MapKept.run_getObj_map I,K.chk,H,E];have O:(Instr.keyThatStays (enc a) (enc a)).run P w=.ok (enc a) w:=by unfold Instr.keyThatStays;rw[if_pos (K.bits a)];rfl
  rw[O];simp only[Result.andThen_ok];exact MapKept.run_setObj_map _ I
end
end
section
variable {D:List MapEntry}{clock g:Nat}{env:Operand->Value}{es:Array MapEntry}{o o':Obj}
variable [Cl]
open Go.MapKept
inductive Pt where
 |other
 |mk
 |look (t:Option TypeDesc) (x k:Value) (ok:Bool)
 |put (t:Option TypeDesc) (x k v:Value)
 |range (t:Option TypeDesc) (x:Value)
 |next (it:Value)
 |entry (it:Value)
def Nm (P:Program)(env:Operand->Value):Op->Pt
 |.makeMap _ none=>.mk
 |.lookup t x i ok=>.look (P.underlying t) (env x) (env i) ok
 |.mapUpdate t x k v=>.put (P.underlying t) (env x) (env k) (env v)
 |.insert t x k v=>.put (P.underlying t) (env x) (env k) (env v)
 |.range t x=>.range (P.underlying t) (env x)
 |.next it false=>.next (env it)
 |.entry it=>.entry (env it)
 |_=>.other
def Ni (P:Program)(st:List KI×S):Pt :=
 match st.1 with
 |.reg _ ops _ (i::_)::_=>match ops[i]? with
  |some o=>match Fb st.2 o&&(Kl st.2 o.op&&Ix o.op) with
   |true=>match gv st.2 ops o with
    |some true=>Nm P (C2 st.2) o.op
    |_=>.other
   |false=>.other
  |none=>.other
 |_=>.other
def Q9:Obj->Bool
 |.cells ..=>false
 |_=>true
section good
variable {u m:PH} {w:World}
def Ta (w:World)(g:Nat)(o:Obj):World:={ w with heap:=w.heap.setIfInBounds g o }
def Aay (h:w.heap[g]?=some o):(Ta w g o').heap[g]?=some o':=by
 show (w.heap.setIfInBounds g o')[g]?=_;rw[A7x];simp[Aw h]
def V0 {g k:Nat}(h:k≠g):(Ta w g o').heap[k]?=w.heap[k]?:=by
 show (w.heap.setIfInBounds g o')[k]?=_;rw[A2m (fun e=>h e.symm)]
def Amy (g:Nat)(o':Obj):(Ta w g o').heap.size=w.heap.size:=by show (w.heap.setIfInBounds g o').size=_;simp
theorem Bv.setO (h : Bv u m w)   (hg : m g = some o) (hn : Q9 o' = true) : Bv u (m.upd g o') (Ta w g o') ∧ B0 u m w u (m.upd g o') (Ta w g o') := by
  have hb := h.pm g _ hg
  have hug : u g = none := by rcases h.ap g with e | e
                              · exact e
                              · grind
  refine ⟨⟨fun k o hk => ?_, fun k o hk => ?_, fun k => ?_, fun k cs1 t1 fr1 j z hk hj => ?_⟩, ⟨by rw [Amy]; exact A08 _, fun k hk hm => V0 (fun e => by rw [e, hg] at hm; cases hm), fun _ _ => rfl, fun k hk hm => by rw [Ad _ _ (fun e => by rw [e, hg] at hm; cases hm)]; exact hm, ⟨rfl, rfl⟩, fun _ => ⟨rfl, A08 _⟩⟩⟩
  · rw [V0 (fun e => by rw [e, hug] at hk; cases hk)]; exact h.pu k o hk
  · by_cases e : k = g
    · subst e; rw [Ab] at hk; rw [Aay hb]; exact hk
    · rw [Ad _ _ e] at hk; rw [V0 e]; exact h.pm k o hk
  · by_cases e : k = g
    · grind
    · rw [Ad _ _ e]; exact h.ap k
  · by_cases e : k = g
    · subst e
      rw [Aay hb] at hk
      simp only [A1f] at hk
      subst hk; cases hn
    · rw [V0 e] at hk; exact h.cl k cs1 t1 fr1 j z hk hj
theorem Bv.newO (h:Bv u m w)(H:Q9 o=true):Bv u (m.upd w.heap.size o) (w.alloc o)/\B0 u m w u (m.upd w.heap.size o) (w.alloc o)/\m w.heap.size=none/\u w.heap.size=none:=by
 have E:m w.heap.size=none:=h.pm.none (A08 _);have I:u w.heap.size=none:=h.pu.none (A08 _);refine⟨⟨fun g o' n=>?_,fun g o' n=>?_,fun g=>?_,fun g cs t fr j z n F=>?_⟩,⟨by rw[B6];omega,fun g n _=>Aq _ _ n,fun _ _=>rfl,fun g n E=>by rw[Ad _ _ oV];exact E,⟨rfl,rfl⟩,fun _=>⟨rfl,A08 _⟩⟩,E,I⟩
 ·rw[Aq _ _ (h.pu.lt n)];exact h.pu g o' n
 ·by_cases e:g=w.heap.size
  ·subst e;rw[Ab]at n;rw[Cn];exact n
  rw[Ad _ _ e]at n;rw[Aq _ _ (h.pm.lt n)];exact h.pm g o' n
 ·by_cases e:g=w.heap.size
  ·grind
  rw[Ad _ _ e];exact h.ap g
 by_cases e:g=w.heap.size
 ·subst e;rw[Cn]at n;simp only[A1f]at n;subst n;cases H
 have C:=Aw n;rw[B6]at C;rw[Aq _ _ oV]at n;exact h.cl g cs t fr j z n F
def Bv.drewG (h:Bv u m w):B0 u m w u m w.drew:=⟨A08 _,fun _ _ _=>rfl,fun _ _=>rfl,fun _ _ h=>h,⟨rfl,rfl⟩,fun _=>⟨rfl,Nat.le_succ _⟩⟩
end good
section rules
variable {P:Program} [A6 P] {fn:Func} {Post:Ce} {st:List KI×S} {u m:PH}
theorem W4 {V:Pt}(h:Ni P st=V)(t:V≠.other):∃ n e j i l k s o,st=(.reg n e j (i::l)::k,s)/\e[i]?=some o/\gv s e o=some true/\Fb s o=true/\Kl s o.op=true/\Ix o.op=true/\Nm P (C2 s) o.op=V /\
 ∀ v,nx st v=(.reg n e j l::k,s.put o.dst (.v v)):=by
 obtain⟨z,s⟩:=st;unfold Ni at h;simp only at h;split at h
 ·rename_i n e j i l k;split at h
  ·rename_i o ho;split at h
   ·rename_i hb;simp only[A1m]at hb;split at h
    ·rename_i hg;exact⟨n,e,j,i,l,k,s,o,rfl,ho,hg,hb.1,hb.2.1,hb.2.2,h,fun v=>by simp[nx,ho]⟩
    grind
   grind
  grind
 grind
def P5:Pt->Bool
 |.look ..=>true
 |_=>false
def Ajd {o:Op}{V:Pt}(h:Nm P env o=V)(j:V≠.other)(e:P5 V=false):Fa o=false:=by
 unfold Nm at h;split at h<;>first|rfl|exact absurd h.symm j|(rw[<-h]at e;cases e)
theorem G.bigX {V:Pt}{K:Value->PH->PH->Prop}(h:Ni P (adv P st)=V)(C:V≠.other/\P5 V=false)(z:(∀ v n j,K v n j->PH.le m j)\/Vl (adv P st)=true)
 (O:∀ env (o:Oper),Nm P env o.op=V->∀ w,Bv u m w->Eg P env o w fun v w'=>∃ n j,Bv n j w'/\B0 u m w n j w'/\K v n j)
 (k:∀ v n j,PH.le u n->K v n j->G P fn Post (nx (adv P st) v) n j):G P fn Post st u m:=by
 refine G.stp ?_;obtain⟨X,T,U,i,l,Y,s,o,e,H,N,L,R,Q,t,F⟩:=W4 h C.1;rw[e]at z⊢;refine⟨?_⟩;refine Ob.big (K:=K) H N L R Q (Ajd t C.1 C.2) (fun v n j W=>?_) (fun w E=>O _ o t w E) (fun v n j I J=>?_)
 ·rcases z with z|z
  ·grind
  exact .inr (Abl H z)
 have:=(k v n j I J).out;rw[F]at this;exact this
def Ame {o:Oper}{w w':World}{K:Value->World->Prop}(h:(execOp env o).run P w=.ok .skip w')(e:K undef w'):Eg P env o w K:=by
 unfold Eg;rw[h];exact e
theorem G.mapMk (h:Ni P (adv P st)=.mk)(k:∀ g,m g=none->u g=none->G P fn Post (nx (adv P st) (.map (some g))) u (m.upd g (.map #[] 0))):G P fn Post st u m:=by
 refine G.bigX (K:=fun v z j=>z=u/\PH.le m j/\∃ g,m g=none/\u g=none/\v=.map (some g)/\j=m.upd g (.map #[] 0)) h (by simp[P5]) (.inl fun v z j E=>E.2.1) (fun env o e w t=>?_) (fun N z j J E=>?_)
 ·obtain⟨H,L,F,pos,after,n⟩:=o;simp only at e;unfold Nm at e;split at e<;>try (cases e;done)
  obtain⟨g1,g2,C,I⟩:=t.newO (o:=.map #[] 0) rfl;refine B8 (w':=w.alloc (.map #[] 0)) (v:=.map (some w.heap.size)) ?_ ⟨u,_,g1,g2,rfl,Jw _ C,w.heap.size,C,I,rfl,rfl⟩;simp[execOp,Instr.makeMap]
 grind
def Z0 (P:Program)(t:TypeId):Option Value:=match P.info? t with|some i=>i.zero|none=>none
def Abk {t:TypeId}{z:Value}(h:Z0 P t=some z)(w:World):(zeroValue t).run P w=.ok z w:=by
 unfold Z0 at h;split at h
 ·rename_i i hi;simp[zeroValue,typeInfo,hi,h]
 cases h
variable {κ:Type} [DecidableEq κ] {enc:κ->Value} {kt et:TypeId}
def G.mapGet (K:Zk P kt enc)(z:Value)(g:Nat)(o:Obj)(l:List (κ×Value))(a:κ)(ok:Bool)(h:Ni P (adv P st)=.look (some (.map kt et)) (.map (some g)) (enc a) ok)(Y:Z0 P et=some z)(R:u g=some o\/m g=some o)(T:Hu enc o l)
 (k:G P fn Post (nx (adv P st) (Alm z (Ik a l) ok)) u m):G P fn Post st u m:=by
 refine G.stp ?_;obtain⟨id,a0,dr,i,l',kk,s,o',e,H,E,Q,W,V,j,F⟩:=W4 h mV;have k:=k.out;rw[F]at k;rw[e];have C:Fr o'.op=false:=by
  unfold Nm at j;split at j<;>first|(cases j;done)|(rename_i e;rw[e];rfl)
 refine⟨Ob.ask H E Q W V C (fun w hp=>?_) k⟩;obtain⟨J,Z,I,pos,after,n⟩:=o';simp only at j hp;unfold Nm at j;split at j<;>try (cases j;done)
 rename_i t x i ok';simp only[Pt.look.injEq]at j;obtain⟨L,N,O,rfl⟩:=j;obtain⟨pu,pm⟩:=hp (.inl rfl);have X:w.heap[g]?=some o:=R.elim (pu g o) (pm (.inl rfl) g o);have U:=Ahy K L (fun w=>Abk Y w) X T a ok';simp only[execOp,N,O];simp[U]
def G.mapHas (K:Zk P kt enc)(z:Value)(g:Nat)(o:Obj)(l:List (κ×Value))(a:κ)(x:Value)(h:Ni P (adv P st)=.look (some (.map kt et)) (.map (some g)) (enc a) true)(t:Z0 P et=some z)(e:u g=some o\/m g=some o)(j:Hu enc o l)(n:Ik a l=some x)
 (k:G P fn Post (nx (adv P st) (.tuple #[x,.bool true])) u m):G P fn Post st u m :=
 G.mapGet K z g o l a true h t e j (by rw[n];exact k)
def G.mapNot (K:Zk P kt enc)(z:Value)(g:Nat)(o:Obj)(l:List (κ×Value))(a:κ)(h:Ni P (adv P st)=.look (some (.map kt et)) (.map (some g)) (enc a) true)(t:Z0 P et=some z)(e:u g=some o\/m g=some o)(j:Hu enc o l)(n:Ik a l=none)
 (k:G P fn Post (nx (adv P st) (.tuple #[z,.bool false])) u m):G P fn Post st u m :=
 G.mapGet K z g o l a true h t e j (by rw[n];exact k)
theorem G.mapPut (K:Zk P kt enc)(g:Nat)(o:Obj)(l:List (κ×Value))(a:κ)(x:Value)(h:Ni P (adv P st)=.put (some (.map kt et)) (.map (some g)) (enc a) x)(J:Vl (adv P st)=true)(Q:m g=some o)(Z:Hu enc o l)
 (k:∀ o',Hu enc o' (Lr a x l)->G P fn Post (nx (adv P st) undef) u (m.upd g o')):G P fn Post st u m:=by
 refine G.bigX (K:=fun v C z=>C=u/\v=undef/\∃ o',Hu enc o' (Lr a x l)/\z=m.upd g o') h (by simp[P5]) (.inr J) (fun env o' e w E=>?_) (fun v' C z V hk=>?_)
 ·obtain⟨I,n,H,pos,after,j⟩:=o';have key:∀ t X A Y,P.underlying t=some (.map kt et)->env X=.map (some g)->env A=enc a->env Y=x->(n=.mapUpdate t X A Y\/n=.insert t X A Y)->Eg P env ⟨I,n,H,pos,after,j⟩ w fun v w'=>∃ C z,Bv C z w'/\B0 u m w C z w'/\C=u/\v=undef/\∃ o',Hu enc o' (Lr a x l)/\z=m.upd g o':=by
   intro t X A Y T L N O U;have hw:w.heap[g]?=some o:=E.pm g o Q;obtain⟨o',F,R⟩:=Aij K T hw Z a x;have W:Q9 o'=true:=by obtain⟨es,c,rfl,_⟩:=F;rfl
   obtain⟨g1,g2⟩:=E.setO Q W;refine Ame (w':=Ta w g o') ?_ ⟨u,_,g1,g2,rfl,rfl,o',F,rfl⟩;rcases U with rfl|rfl
   ·simp only[execOp,L,N,O];simp[R,Ta]
   simp only[execOp,L,N,O];simp[R,Ta]
  unfold Nm at e;split at e<;>try (cases e;done)
  ·grind
  grind
 grind
def Ar (D:List MapEntry):Array Nat:=(D.map (·.born)).toArray
structure Vo (es:Array MapEntry)(D:List MapEntry):Prop where
 sub:∀ e∈D,e∈es.toList
 nod:(D.map (·.born)).Nodup
def Vo.nil (es:Array MapEntry):Vo es []:=⟨mV,mV⟩
theorem G.mapRange (g:Nat)(es:Array MapEntry)(clock:Nat)(kt et:TypeId)(h:Ni P (adv P st)=.range (some (.map kt et)) (.map (some g)))(N:u g=some (.map es clock)\/m g=some (.map es clock))
 (k:∀ i,m i=none->u i=none->G P fn Post (nx (adv P st) (.pointer (some ⟨i,0,none⟩))) u (m.upd i (.mapIter (some g) clock (Ar []) clock))):G P fn Post st u m:=by
 refine G.bigX (K:=fun v z n=>z=u/\PH.le m n/\∃ i,m i=none/\u i=none/\v=.pointer (some ⟨i,0,none⟩)/\n=m.upd i (.mapIter (some g) clock (Ar []) clock)) h (by simp[P5]) (.inl fun v z n E=>E.2.1) (fun env o e w j=>?_) (fun U z n O E=>?_)
 ·obtain⟨H,T,F,pos,after,t⟩:=o;simp only at e;unfold Nm at e;split at e<;>try (cases e;done)
  simp only[Pt.range.injEq]at e;obtain⟨J,L⟩:=e;have R:w.heap[g]?=some (.map es clock):=N.elim (j.pu g _) (j.pm g _);obtain⟨g1,g2,C,I⟩:=j.newO (o:=.mapIter (some g) clock (Ar []) clock) rfl;have Q:=run_range_map (P:=P) w _ kt et g es clock J R;refine B8 (w':=w.alloc (.mapIter (some g) clock (Ar []) clock)) (v:=.pointer (some ⟨w.heap.size,0,none⟩)) ?_ ⟨u,_,g1,g2,rfl,Jw _ C,w.heap.size,C,I,rfl,rfl⟩;simp only[execOp,L];simp[Q,Ar]
 grind
def Ad8 (n:Nat)(t:0<n)(w:World):∃ j e,j<n/\(e=w\/e=w.drew)/\(choose (.mapNext n)).run P w=.ok j e:=by
 by_cases h:n<=1
 ·exact⟨0,w,t,.inl rfl,by simp[Question.forced,h]⟩
 exact⟨_,w.drew,A29 _ t,.inr rfl,by
  simp only[choose,Sem.run,Question.forced,decide_eq_true_eq,h,if_false,Question.cut];rfl⟩
theorem Amu {w:World}{z g:Nat}(N:TypeId)(hi:w.heap[z]?=some (.mapIter (some g) clock (Ar D) clock))(T:w.heap[g]?=some (.map es clock))(K:Stamped es clock) :
 ((leftOf es (Ar D)).size=0/\(Instr.next (.pointer (some ⟨z,0,none⟩)) false N).run P w=.ok (.tuple #[.bool false]) w) \/
 ∃ e∈(leftOf es (Ar D)).toList,∃ n,(n=w\/n=w.drew)/\(Instr.next (.pointer (some ⟨z,0,none⟩)) false N).run P w=.ok (.tuple #[.bool true,e.key,e.val]) (Ta n z (.mapIter (some g) clock (Ar (D++[e])) clock)):=by
 have t:∀ e:MapEntry,(Ar D).push e.born=Ar (D++[e]):=fun e=>by simp[Ar]
 simp only[Instr.next,getObj,Sem.run_bind,Sem.run,hi,T,Result.andThen,next_test_false (Ar D) es clock clock K.1 (A08 _),A4z,if_false];have h:∀ x∈(leftOf es (Ar D)).toList,x.born<clock:=fun x J=>K.1 x (mem_left J).1;have R:es.filter (fun e=>!(Ar D).contains e.born)=leftOf es (Ar D):=rfl;simp only[R];generalize leftOf es (Ar D)=L at h⊢;have O:L.filter (fun x=>decide (x.born<clock))=L:=Array.filter_eq_self.2 (fun x J=>by simpa using h x (by simpa using J));have Q:L.filter (fun x=>decide (x.born≥clock)) = #[]:=by simp_all
 simp only[O,Q,Array.append_empty];by_cases h0:L.size=0
 ·have:L = #[]:=A4s h0;subst this;simp[Question.forced]
 right;have I:L.isEmpty=false:=by grind
 simp only[I,A4z,if_false,Array.empty_append,Array.size_map];obtain⟨j,n,U,C,E⟩:=Ad8 (P:=P) L.size oV w;refine⟨L[j],mV,n,C,?_⟩;have H:n.heap[z]?=some (.mapIter (some g) clock (Ar D) clock):=by rcases C with rfl|rfl<;>exact hi
 have F:∀ o':Obj,(setObj z o').run P n=.ok () (Ta n z o'):=fun o'=>by
  simp only[setObj,Sem.run,H,Ta]
 simp only[E,Array.getElem?_map,A2v U,A4c,Sem.run_bind,F,t];rfl
def Pl (D:List MapEntry)(b:Nat):(Ar D).contains b=true↔b∈D.map (·.born):=by
 unfold Ar;simp
def Aoo (F:Stamped es clock)(n:Vo es D)(h:(leftOf es (Ar D)).size=0):D.Perm es.toList:=by
 have E:es.toList.Nodup:=M4 F.2.1;have z:D.Nodup:=M4 n.nod;refine (List.perm_ext_iff_of_nodup z E).2 fun e=>⟨n.sub e,fun I=>?_⟩;have C:leftOf es (Ar D) = #[]:=A4s h;have t:(Ar D).contains e.born=true:=by
  cases t:(Ar D).contains e.born with
  |true=>rfl
  |false =>
   have:e∈leftOf es (Ar D):=Array.mem_filter.2 ⟨by simpa using I,by rw[t];rfl⟩;rw[C]at this;simp at this
 obtain⟨d,H,L⟩:=A1b.1 ((Pl D _).1 t);have J:=find_born e es.toList F.2.1 I;have j:=find_born d es.toList F.2.1 (n.sub d H);rw[L]at j;rw[J]at j;have K:=A28 j;rw[K];exact H
def Vo.snoc (h:Vo es D){e:MapEntry}(E:e∈(leftOf es (Ar D)).toList):Vo es (D++[e]):=by
 obtain⟨z,n⟩:=mem_left E;refine⟨fun x j=>?_,?_⟩
 ·simp only[A1h,A12]at j;rcases j with j|rfl
  ·exact h.sub x j
  exact z
 simp only[A1i,A2u,A7m];refine A4p.2 ⟨h.nod,mV,fun a C b t=>?_⟩;simp only[A12]at t;subst t;rintro rfl;rw[(Pl D _).2 C]at n;cases n
theorem G.mapNext (t g:Nat)(es:Array MapEntry)(clock:Nat)(D:List MapEntry)(h:Ni P (adv P st)=.next (.pointer (some ⟨t,0,none⟩)))(I:Vl (adv P st)=true)(hi:m t=some (.mapIter (some g) clock (Ar D) clock))(W:u g=some (.map es clock)\/m g=some (.map es clock))(T:Stamped es clock)(Q:Vo es D)
 (k0:D.Perm es.toList->G P fn Post (nx (adv P st) (.tuple #[.bool false])) u m)
 (k1:∀ e,e∈es.toList->Vo es (D++[e])->G P fn Post (nx (adv P st) (.tuple #[.bool true,e.key,e.val])) u (m.upd t (.mapIter (some g) clock (Ar (D++[e])) clock))):G P fn Post st u m:=by
 refine G.bigX (K:=fun v U N=>U=u/\((N=m/\v=.tuple #[.bool false]/\D.Perm es.toList)\/∃ e,e∈es.toList/\Vo es (D++[e])/\v=.tuple #[.bool true,e.key,e.val]/\N=m.upd t (.mapIter (some g) clock (Ar (D++[e])) clock))) h (by simp[P5]) (.inr I) (fun env o j w n=>?_) (fun v' U N X hk=>?_)
 ·obtain⟨V,Z,F,pos,after,H⟩:=o;simp only at j;unfold Nm at j;split at j<;>try (cases j;done)
  simp only[Pt.next.injEq]at j;have Y:w.heap[g]?=some (.map es clock):=W.elim (n.pu g _) (n.pm g _);have L:=n.pm t _ hi;rcases Amu (P:=P) F L Y T with ⟨h0,J⟩|⟨e,R,O,E,J⟩
  ·refine B8 (w':=w) (v:=.tuple #[.bool false]) ?_ ⟨u,m,n,B0.refl _ _ _,rfl,.inl ⟨rfl,rfl,Aoo T Q h0⟩⟩;simp only[execOp,j];simp[J]
  have z:Bv u m O:=by rcases E with rfl|rfl;exact n;exact n.drew'
  have C:B0 u m w u m O:=by rcases E with rfl|rfl;exact B0.refl _ _ _;exact n.drewG
  obtain⟨g1,g2⟩:=z.setO (o':=.mapIter (some g) clock (Ar (D++[e])) clock) hi rfl;refine B8 (w':=Ta O t (.mapIter (some g) clock (Ar (D++[e])) clock)) (v:=.tuple #[.bool true,e.key,e.val]) ?_ ⟨u,_,g1,C.trans g2,rfl,.inr ⟨e,(mem_left R).1,Q.snoc R,rfl,rfl⟩⟩;simp only[execOp,j];simp[J]
 grind
theorem G.mapEntry (t g:Nat)(es:Array MapEntry)(clock:Nat)(D:List MapEntry)(e:MapEntry)(h:Ni P (adv P st)=.entry (.pointer (some ⟨t,0,none⟩)))(hi:m t=some (.mapIter (some g) clock (Ar (D++[e])) clock))(Q:u g=some (.map es clock)\/m g=some (.map es clock))(U:Stamped es clock)(N:e∈es.toList)
 (k:G P fn Post (nx (adv P st) (.tuple #[e.key,e.val])) u m):G P fn Post st u m:=by
 refine G.bigX (K:=fun v F E=>F=u/\E=m/\v=.tuple #[e.key,e.val]) h (by simp[P5]) (.inl fun v F E H=>by rw[H.2.1];exact PH.le_refl _) (fun env o j w n=>?_) (fun X F E R H=>?_)
 ·obtain⟨J,W,I,pos,after,z⟩:=o;simp only at j;unfold Nm at j;split at j<;>try (cases j;done)
  simp only[Pt.entry.injEq]at j;have V:w.heap[g]?=some (.map es clock):=Q.elim (n.pu g _) (n.pm g _);have C:=n.pm t _ hi;have L:(Ar (D++[e])).back?=some e.born:=by simp[Ar]
  have O:es.find? (fun x=>x.born==e.born)=some e:=by rw[<-Array.find?_toList];exact find_born e es.toList U.2.1 N
  have T:(Instr.entry (.pointer (some ⟨t,0,none⟩))).run P w=.ok (.tuple #[e.key,e.val]) w:=by
   simp only[Instr.entry,getObj,Sem.run_bind,Sem.run,C,V,Result.andThen,L,bne_self_eq_false,O];rfl
  refine B8 (w':=w) ?_ ⟨u,m,n,B0.refl _ _ _,rfl,rfl,rfl⟩;simp only[execOp,j];simp[T]
 grind
end rules
end
section
variable {g:Nat}
variable [Cl]
def Pj (g:Nat)(o:Obj):PH:=PH.mt.upd g o
def PH.del (m:PH)(g:Nat):PH:=fun h=>if h=g then none else m h
def Ck (g:Nat)(o:Obj):Pj g o g=some o:=Ab _ _ _
def Mz {g h:Nat}(o:Obj)(e:h≠g):Pj g o h=none:=by unfold Pj;rw[Ad _ _ e];rfl
def Aoe {m:PH}{o:Obj}(h:m g=some o):m=(m.del g).or (Pj g o)/\Hp (m.del g) (Pj g o):=by
 constructor
 ·funext k
  by_cases e:k=g
  ·subst e;rw[PH.or_r (by simp[PH.del]),Ck,h]
  cases hk:m k with
  |none=>rw[PH.or_r (by simp[PH.del,e,hk]),Mz o e]
  |some p=>rw[PH.or_l (o:=p) (by simp[PH.del,e,hk])]
 intro k;by_cases e:k=g
 ·left;simp[PH.del,e]
 right;exact Mz o e
def Arv {m:PH}{o:Obj}:(m.del g).or (Pj g o)=m.upd g o:=by
 funext k
 by_cases e:k=g
 ·subst e;rw[PH.or_r (by simp[PH.del]),Ck,Ab]
 rw[Ad _ _ e];cases hk:m k with
 |none=>rw[PH.or_r (by simp[PH.del,e,hk]),Mz o e]
 |some p=>rw[PH.or_l (o:=p) (by simp[PH.del,e,hk])]
section
variable {P:Program} [A6 P] {fn:Func} {Post:Ce} {st:List KI×S} {u m:PH}
def G.callG (f:Nat)(args:List Value){g:Nat}{o:Obj}{R:Value->PH->Obj->Prop}(h:Aj P (adv P st)=.call f args)(j:Vl (adv P st)=true)(E:∀ args w,(callFunc f args).run P w=.ok (.enter f args) w)(F:m g=some o)
 (c:Ag P f args u (Pj g o) (fun v e n=>∃ o',n=Pj g o'/\R v e o')) (k:∀ v e o',PH.le u e->R v e o'->G P fn Post (nx (adv P st) v) e (m.upd g o')):G P fn Post st u m:=by
 obtain⟨t,z⟩:=Aoe F;refine G.callA f args h j E t z c ?_;rintro v e n H ⟨o',rfl,C⟩ _;rw[Arv];exact k v e o' H C
def Ag.giveAll {f:FuncId}{args:List Value}{R:Value->PH->PH->Prop}(c:Ag P f args u PH.mt R):Fn0 P f args u (fun v n=>∃ K J,PH.le K n/\PH.le J n/\R v K J):=by
 intro w T;refine Calls.mono (c w T) fun e w' Q=>?_;obtain⟨v,n,H,L,I,C,O⟩:=Q;have F:PH.le n (H.or n):=fun g o h=>by
  cases hx:H g with
  |none=>rw[PH.or_r hx];exact h
  |some p=>have:=(I.ap g).resolve_right (by rw[hx];simp);rw[this]at h;cases h
 refine⟨v,H.or n,PH.mt,L,⟨fun g o h=>?_,Fj.mt _,fun g=>.inr rfl,fun g cs t fr j z h U=>?_⟩,⟨C.sz,C.old,fun g E=>?_,fun _ _ _=>rfl,C.io,C.dr⟩,rfl,n,H,F,fun g o h=>PH.or_l h,O⟩
 ·cases hx:H g with
  |none=>rw[PH.or_r hx]at h;exact I.pu g o h
  |some p=>rw[PH.or_l hx]at h;cases h;exact I.pm g _ hx
 ·exact F g _ (I.cl g cs t fr j z h U)
 rw[PH.or_r (C.ms g E rfl)];exact C.us g E
end
abbrev SlI:Type:=Option Addr×Nat×Nat
section
variable {κ:Type} [DecidableEq κ] {enc:κ->Value} {R:PH->Value->Rat->Prop} {nz:Bool} {u:PH} {o:Obj} {f:κ->Rat} {N s:Nat}
def O4 {a:κ}:∀ {l:List (κ×Value)} {v:Value},Ik a l=some v->(a,v)∈l
 |(b,w)::l,v,h=>by
  unfold Ik at h;split at h
  ·rename_i e;cases h;rw[e];simp
  exact A2f _ (O4 h)
def Abv {a:κ}:∀ {l:List (κ×Value)} {v:Value},(l.map (·.1)).Nodup->(a,v)∈l->Ik a l=some v
 |(b,w)::l,v,hn,h=>by
  simp only[A2u,A4j]at hn;unfold Ik;rcases A1g.1 h with e|e
  ·cases e;rw[if_pos rfl]
  have:a≠b:=fun j=>hn.1 (by rw[<-j];exact A1b.2 ⟨_,e,rfl⟩);rw[if_neg this];exact Abv hn.2 e
def Ae0 {a:κ}{x:Value}:∀ {l:List (κ×Value)} {p:κ×Value},(l.map (·.1)).Nodup->p∈Lr a x l->p=(a,x)\/(p∈l/\p.1≠a)
 |[],p,_,h=>by simp[Lr]at h;exact .inl h
 |(b,w)::l,p,hn,h=>by
  simp only[A2u,A4j]at hn;unfold Lr at h;split at h
  ·rename_i e;subst e;rcases A1g.1 h with h|h
   ·exact .inl h
   refine .inr ⟨A2f _ h,fun j=>hn.1 ?_⟩;rw[<-j];exact A1b.2 ⟨p,h,rfl⟩
  rename_i e;rcases A1g.1 h with h|h
  ·subst h;exact .inr ⟨mV,fun j=>e j.symm⟩
  rcases Ae0 hn.2 h with h|⟨h,n⟩
  ·exact .inl h
  exact .inr ⟨A2f _ h,n⟩
def Aaq {a:κ}{x:Value}{k:κ}:∀ {l:List (κ×Value)},k∈(Lr a x l).map (·.1)↔k=a\/k∈l.map (·.1)
 |[]=>by simp[Lr]
 |(b,w)::l=>by
  unfold Lr;split
  ·rename_i e;subst e;simp
  simp only[A2u,A1g,Aaq (l:=l)];constructor
  ·rintro (h|h|h)
   ·exact .inr (.inl h)
   ·exact .inl h
   exact .inr (.inr h)
  rintro (h|h|h)
  ·exact .inr (.inl h)
  ·exact .inl h
  exact .inr (.inr h)
def U1 {a:κ}{x:Value}:∀ {l:List (κ×Value)},(Lr a x l).length<=l.length+1
 |[]=>by simp[Lr]
 |(b,w)::l=>by
  unfold Lr;split
  ·simp
  have:=U1 (a:=a) (x:=x) (l:=l);simp;omega
def Nh (f:κ->Rat)(a:κ)(q:Rat):κ->Rat:=fun k=>if k=a then q else f k
end
end
section
abbrev Par:=Int×List UInt8
def Ud:∀ a:List UInt8,Op.bytesLess a a=false
 |[]=>rfl
 |x::a=>by unfold Op.bytesLess;rw[Ud a];simp
def Se:∀ {a b c:List UInt8},Op.bytesLess a b=true->Op.bytesLess b c=true->Op.bytesLess a c=true
 |_,[],_,h,_=>by simp[Op.bytesLess]at h
 |_,_::_,[],_,k=>by simp[Op.bytesLess]at k
 |[],_::_,_::_,_,_=>rfl
 |x::a,y::b,z::c,h,k=>by
  unfold Op.bytesLess at h k⊢;simp only[A4b,decide_eq_true_eq,A1m,beq_iff_eq]at h k⊢;rcases h with h|⟨rfl,h⟩
  ·rcases k with k|⟨rfl,k⟩
   ·exact .inl (UInt8.lt_trans h k)
   exact .inl h
  rcases k with k|⟨rfl,k⟩
  ·exact .inl k
  exact .inr ⟨rfl,Se h k⟩
def Ab1:∀ {a b:List UInt8},Op.bytesLess a b=false->Op.bytesLess b a=false->a=b
 |[],[],_,_=>rfl
 |[],_::_,h,_=>by simp[Op.bytesLess]at h
 |_::_,[],_,k=>by simp[Op.bytesLess]at k
 |x::a,y::b,h,k=>by
  unfold Op.bytesLess at h k;simp only[Bool.or_eq_false_iff,decide_eq_false_iff_not,A8b,beq_eq_false_iff_ne]at h k;have g:x=y:=by
   rcases A5u x.toNat y.toNat with e|e|e
   ·exact absurd (A9v.2 e) h.1
   ·exact A8p.1 e
   exact absurd (A9v.2 e) k.1
  subst g;have j:=h.2.resolve_left (fun e=>e rfl);have m:=k.2.resolve_left (fun e=>e rfl);rw[Ab1 j m]
def Vj (a b:List UInt8):Int:=if Op.bytesLess a b then -1 else if a=b then 0 else 1
def Q1 (x y:Int):Int:=if x<y then -1 else if y<x then 1 else 0
def Bk (a b:Par):Int:=if Q1 a.1 b.1≠0 then Q1 a.1 b.1 else Vj a.2 b.2
def Oc (a b:Par×Par):Int:=if Bk a.1 b.1≠0 then Bk a.1 b.1 else Bk a.2 b.2
structure Ord {κ:Type}(c:κ->κ->Int):Prop where
 refl:∀ a,c a a=0
 eq:∀ a b,c a b=0->a=b
 sym:∀ a b,c a b<0↔0<c b a
 trans:∀ a b d,c a b<0->c b d<0->c a d<0
def A0y:Ord Vj:=by
 refine⟨fun a=>by simp[Vj,Ud],fun a b h=>?_,fun a b=>?_,fun a b d h k=>?_⟩
 ·unfold Vj at h;split at h
  ·cases h
  split at h
  ·assumption
  cases h
 ·unfold Vj;by_cases h:Op.bytesLess a b=true
  ·rw[if_pos h];have g:¬ (Op.bytesLess b a=true):=fun k=>by have:=Se h k;rw[Ud]at this;cases this
   have m:¬ (b=a):=fun e=>by rw[e,Ud]at h;cases h
   rw[if_neg g,if_neg m];omega
  rw[if_neg h];constructor
  ·intro k;split at k<;>omega
  intro k;by_cases g:Op.bytesLess b a=true
  ·rw[if_pos g]at k;omega
  rw[if_neg g]at k;have:=Ab1 (Bool.eq_false_iff.2 g) (Bool.eq_false_iff.2 h);rw[if_pos this]at k;omega
 have j:Op.bytesLess a b=true:=by
  unfold Vj at h;split at h
  ·assumption
  split at h<;>omega
 have n:Op.bytesLess b d=true:=by
  unfold Vj at k;split at k
  ·assumption
  split at k<;>omega
 unfold Vj;rw[if_pos (Se j n)];omega
def A0o:Ord Q1:=by
 refine⟨fun a=>by simp[Q1],fun a b h=>?_,fun a b=>?_,fun a b d h k=>?_⟩;all_goals unfold Q1 at *
 ·split at h<;>(try split at h)<;>omega
 ·split<;>split<;>(try split)<;>omega
 split at h<;>split at k<;>(try split at h)<;>(try split at k)<;>split<;>(try split)<;>omega
def Ord.lex {α β:Type}{c:α->α->Int}{d:β->β->Int}(h:Ord c)(k:Ord d):Ord (fun (a b:α×β)=>if c a.1 b.1≠0 then c a.1 b.1 else d a.2 b.2):=by
 refine⟨fun a=>by simp[h.refl,k.refl],fun a b e=>?_,fun a b=>?_,fun a b x e f=>?_⟩
 ·by_cases h0:c a.1 b.1=0
  ·simp only[h0,ne_eq,not_true,if_false]at e;exact A6z (h.eq _ _ h0) (k.eq _ _ e)
  simp only[h0,ne_eq,not_false_eq_true,if_true]at e
 ·have C:=h.sym a.1 b.1;have F:=h.sym b.1 a.1;by_cases h0:c a.1 b.1=0
  ·have e:=h.eq _ _ h0;have n:c b.1 a.1=0:=by rw[<-e];exact h.refl _
   simp only[h0,n,ne_eq,not_true,if_false];exact k.sym _ _
  have n:c b.1 a.1≠0:=fun E=>h0 (by rw[h.eq _ _ E];exact h.refl _);simp only[h0,n,ne_eq,not_false_eq_true,if_true];exact C
 have g:∀ y z:α×β,(if c y.1 z.1≠0 then c y.1 z.1 else d y.2 z.2)<0↔(c y.1 z.1<0\/(y.1=z.1/\d y.2 z.2<0)):=fun y z=>by
  by_cases h0:c y.1 z.1=0
  ·have e:=h.eq _ _ h0;simp only[h0,ne_eq,not_true,if_false];constructor
   ·intro j;exact .inr ⟨e,j⟩
   rintro (j|⟨_,j⟩)
   ·omega
   exact j
  simp only[h0,ne_eq,not_false_eq_true,if_true];constructor
  ·intro j;exact .inl j
  rintro (j|⟨m,_⟩)
  ·exact j
  exact absurd (by rw[m];exact h.refl _) h0
 have m:=(g a b).1 e;have f':=(g b x).1 f;refine (g a x).2 ?_;rcases m with m|⟨t,u⟩
 ·rcases f' with f'|⟨f1,f2⟩
  ·exact .inl (h.trans _ _ _ m f')
  rw[<-f1];exact .inl m
 rcases f' with f'|⟨f1,f2⟩
 ·rw[t];exact .inl f'
 exact .inr ⟨t.trans f1,k.trans _ _ _ u f2⟩
def Et:Ord Bk:=Ord.lex A0o A0y
def A0t:Ord Oc:=Ord.lex Et Et
section
variable {κ:Type} {c:κ->κ->Int}
def Hb (c:κ->κ->Int)(l:List κ):Prop:=l.Pairwise fun a b=>c a b<0
def Ord.irr (h:Ord c)(a:κ):¬ c a a<0:=by rw[h.refl];omega
def Agg (h:Ord c):∀ {l l':List κ},Hb c l->Hb c l'->(∀ a,a∈l↔a∈l')->l=l'
 |[],[],_,_,_=>rfl
 |[],b::l',_,_,e=>by have:=(e b).2 mV;simp at this
 |a::l,[],_,_,e=>by have:=(e a).1 mV;simp at this
 |a::l,b::l',h1,h2,e=>by
  obtain⟨m,t⟩:=A8y.1 h1;obtain⟨n,u⟩:=A8y.1 h2;have j:a=b:=by
   rcases A1g.1 ((e a).1 mV) with r|r
   ·exact r
   rcases A1g.1 ((e b).2 mV) with s|s
   ·exact s.symm
   exact absurd (h.trans _ _ _ (m b s) (n a r)) (h.irr a)
  subst j
  congr 1
  refine Agg h t u fun x=>?_;constructor
  ·intro g;rcases A1g.1 ((e x).1 (by simp[g])) with r|r
   ·subst r;exact absurd (m x g) (h.irr x)
   exact r
  intro g;rcases A1g.1 ((e x).2 (by simp[g])) with r|r
  ·subst r;exact absurd (n x g) (h.irr x)
  exact r
def Hb.nodup (h:Ord c){l:List κ}(j:Hb c l):l.Nodup:=j.imp fun g e=>by rw[e]at g;exact h.irr _ g
structure Can (c:κ->κ->Int)(f:κ->Rat)(l:List (κ×Rat)):Prop where
 srt:Hb c (l.map (·.1))
 val:∀ p∈l,p.2=f p.1/\p.2≠0
 out:∀ k,k∉l.map (·.1)->f k=0
end
structure CF where
 c:Rat
 s:Par->Rat
 t:Par×Par->Rat
def Ay (p q:Par):Par×Par:=if 0<Bk p q then (q,p) else (p,q)
def Wi (p q:Par):Ay p q=Ay q p:=by
 unfold Ay;have g:=Et.sym p q;have j:=Et.sym q p;by_cases h:0<Bk p q
 ·rw[if_pos h,if_neg oV]
 rw[if_neg h];by_cases e:0<Bk q p
 ·rw[if_pos e]
 rw[if_neg e];have:=Et.eq p q oV;rw[this]
def CF.zero:CF:=⟨0,fun _=>0,fun _=>0⟩
def CF.add (a b:CF):CF:=⟨a.c+b.c,fun p=>a.s p+b.s p,fun q=>a.t q+b.t q⟩
def CF.scale (k:Rat)(a:CF):CF:=⟨a.c*k,fun p=>a.s p*k,fun q=>a.t q*k⟩
def I2 (a b:CF)(q:Par×Par):Rat:=if 0<Bk q.1 q.2 then 0 else if q.1=q.2 then 2*(a.s q.1*b.s q.1) else a.s q.1*b.s q.2+a.s q.2*b.s q.1
def CF.mul (a b:CF):CF:=⟨a.c*b.c,fun p=>b.s p*a.c+a.s p*b.c,fun q=>b.t q*a.c+a.t q*b.c+I2 a b q⟩
def CF.ext' {a b:CF}(e:a.c=b.c)(g:∀ p,a.s p=b.s p)(h:∀ q,a.t q=b.t q):a=b:=by
 cases a;cases b;simp only at e g h;rw[e,funext g,funext h]
theorem Ajg (a b:CF)(q:Par×Par):I2 a b q=I2 b a q:=by
 unfold I2;split
 ·rfl
 split<;>grind
theorem CF.mul_comm (a b:CF):a.mul b=b.mul a:=CF.ext' (by simp only[CF.mul];grind) (fun p=>by simp only[CF.mul];grind) (fun q=>by simp only[CF.mul];rw[Ajg];grind)
theorem CF.mul_zero (a:CF):a.mul CF.zero=CF.zero:=by
 refine CF.ext' (by simp only[CF.mul,CF.zero];grind) (fun p=>by simp only[CF.mul,CF.zero];grind) (fun q=>?_);simp only[CF.mul,CF.zero,I2];split
 ·grind
 split<;>grind
end
section
variable {k:IntKind}{o:Nat}{t ti ts:TypeId}{xs:Array Value}
def Ap (p:Par):Value:=.agg #[.int .i64 p.1,.string (mkS p.2)]
def prV (q:Par×Par):Value:=.agg #[.int .i64 q.1.1,.string (mkS q.1.2),.int .i64 q.2.1,.string (mkS q.2.2)]
def Abc (f:Field):Bool×TypeId×Nat:=(f.name != "_",f.type,f.offset)
section
variable {P:Program}
def Jh {v:Value}(h:Qj P t=some false)(e:xs[o]?=some v)(w:World):(part t xs o).run P w=.ok v w:=by
 simp[part,Eo h,e]
def Jq {n:Nat}(h:Qj P t=some true)(e:szB P t=some n)(w:World):(part t xs o).run P w=.ok (.agg (xs.extract o (o+n))) w:=by
 simp[part,Eo h,Bf e]
def Qk (h:P.underlying t=some (.int k)):Qj P t=some false:=by unfold Qj;rw[h]
def Qc (h:P.underlying t=some .string):Qj P t=some false:=by unfold Qj;rw[h]
def Auf (a b:List UInt8):((mkS a).toList==(mkS b).toList)=decide (a=b):=Mf a b
def Akl {A B:Type}{h:A->B}{e:List A}{x y:B}(j:e.map h = [x,y]):∃ f g,e = [f,g]:=by
 have h0:=congrArg List.length j;simp only[A03,A3f,A30]at h0
 match e,h0 with
 |[f,g],_=>exact⟨f,g,rfl⟩
def Qn (h:(P.fieldsOf t).toList.map Abc = [(true,ti,0),(true,ts,1)])(F:P.underlying t=some (.struct (P.fieldsOf t)))(hp:P.stoodInHeld t=false)(hi:P.underlying ti=some (.int k))(n:P.underlying ts=some .string)(d:Nat)(a b:Par)(w:World) :
 (Op.equalIn (d+2) t (Ap a) (Ap b)).run P w=.ok (decide (a=b)) w:=by
 unfold Ap;rw[run_equalIn_struct w (d+1) t _ _ F hp];generalize (P.fieldsOf t).toList=fs at h;obtain⟨f,g,m⟩:=Akl h;subst m;simp only[A2u,A7m,A3g,Abc,A2i,bne_iff_ne,ne_eq,and_true]at h;obtain⟨⟨n1,rfl,C⟩,n2,rfl,E⟩:=h;obtain⟨a1,a2⟩:=a;obtain⟨j,u⟩:=b;simp only[Op.eqFields,ne_eq,n1,n2,not_false_eq_true,if_true,Sem.run_bind];rw[Jh (Qk hi) (v:=.int .i64 a1) (by rw[C];rfl),Result.andThen_ok,Jh (Qk hi) (v:=.int .i64 j) (by rw[C];rfl),Result.andThen_ok,run_equalIn_int w d _ _ _ _ _ hi,Result.andThen_ok];by_cases e:a1=j
 ·subst e;simp only[beq_self_eq_true,A72,A4z,if_false,Sem.run_bind];rw[Jh (Qc n) (v:=.string (mkS a2)) (by rw[E];rfl),Result.andThen_ok,Jh (Qc n) (v:=.string (mkS u)) (by rw[E];rfl),Result.andThen_ok,run_equalIn_string w d _ _ _ n,Result.andThen_ok,Auf];by_cases z:a2=u
  ·subst z;simp
  simp[z]
 have:(a1==j)=false:=by simpa using e
 simp[this,e]
def Sl (h:(∃ k,P.underlying t=some (.int k))\/P.underlying t=some .string)(e:Bool)(d:Nat)(v:Value)(w:World):(Instr.checkKey e (d+1) t v).run P w=.ok () w:=by
 unfold Instr.checkKey;rcases h with ⟨k,h⟩|h<;>simp[run_underlying h]
def Ns (h:(P.fieldsOf t).toList.map Abc = [(true,ti,0),(true,ts,1)])(z:P.underlying t=some (.struct (P.fieldsOf t)))(hi:P.underlying ti=some (.int k))(m:P.underlying ts=some .string)(e:Bool)(d:Nat)(a:Par)(w:World) :
 (Instr.checkKey e (d+2) t (Ap a)).run P w=.ok () w:=by
 unfold Ap;rw[Instr.checkKey];simp only[Sem.run_bind,run_underlying z,Result.andThen_ok];rw[<-Array.forIn_toList];generalize (P.fieldsOf t).toList=fs at h;obtain⟨f,g,j⟩:=Akl h;subst j;simp only[A2u,A7m,A3g,Abc,A2i,bne_iff_ne,ne_eq,and_true]at h;obtain⟨⟨n1,n,C⟩,n2,u,E⟩:=h;simp only[List.forIn_cons,List.forIn_nil,ne_eq,n1,n2,not_false_eq_true,if_true,Sem.run_bind,n,u,C,E];rw[Jh (Qk hi) (v:=.int .i64 a.1) rfl,Result.andThen_ok,Sl (.inl ⟨k,hi⟩)];simp only[Result.andThen_ok,Sem.run_pure,Sem.run_bind];rw[Jh (Qc m) (v:=.string (mkS a.2)) rfl,Result.andThen_ok,Sl (.inr m)];simp
def As0 (a b:Par)(h:Ap a=Ap b):a=b:=by
 unfold Ap at h;simp only[Value.agg.injEq,A5j,A3g,Value.int.injEq,Value.string.injEq,true_and,and_true]at h;exact A6z h.1 (Ads.1 h.2)
def Auq (a b:Par×Par)(h:prV a=prV b):a=b:=by
 unfold prV at h;simp only[Value.agg.injEq,A5j,A3g,Value.int.injEq,Value.string.injEq,true_and,and_true]at h;exact A6z (A6z h.1 (Ads.1 h.2.1)) (A6z h.2.2.1 (Ads.1 h.2.2.2))
def Af9 (d:Nat)(k:IntKind)(z:Int):Instr.sameBits d (.int k z) (.int k z)=true:=by unfold Instr.sameBits;simp
def Agj (d:Nat)(z:ByteArray):Instr.sameBits d (.string z) (.string z)=true:=by
 obtain⟨⟨l⟩⟩:=z;have:((⟨⟨l⟩⟩:ByteArray) == ⟨⟨l⟩⟩)=true:=by rw[beq_toListBytes];simp
 unfold Instr.sameBits;exact this
def Asi (a:Par):Instr.sameBits 10000 (Ap a) (Ap a)=true:=by
 show Instr.sameBits (9999+1) _ _=true;unfold Ap Instr.sameBits;simp[Af9,Agj]
def Ava (a:Par×Par):Instr.sameBits 10000 (prV a) (prV a)=true:=by
 show Instr.sameBits (9999+1) _ _=true;unfold prV Instr.sameBits;simp[Af9,Agj]
end
theorem Bq:Zk prog 118 Ap :=
 ⟨fun a b w=>Qn (P:=prog) (t:=118) (ti:=3) (ts:=9) (k:=.i64) kV kV kV kV kV 9998 a b w,
  ⟨_,(by kernel_rfl:prog.underlying 118=some (.struct (prog.fieldsOf 118))),.inl fun _ _=>rfl⟩,
  fun e a w=>Ns (P:=prog) (t:=118) (ti:=3) (ts:=9) (k:=.i64) kV kV kV kV e 9998 a w,Asi,As0⟩
end
section
section
variable {P:Program}
def Ahc {t e ti ts:TypeId}{k:IntKind}(O:P.underlying t=some (.array 2 e))(hi:(P.info? e).isSome=true)(N:P.cellsOf e=2)(h:szB P e=some 2)
 (E:(P.fieldsOf e).toList.map Abc = [(true,ti,0),(true,ts,1)]) (j:P.underlying e=some (.struct (P.fieldsOf e))) (F:P.stoodInHeld e=false) (H:P.underlying ti=some (.int k)) (J:P.underlying ts=some .string) (d:Nat) (a b:Par×Par) (w:World) :
 (Op.equalIn (d+3) t (prV a) (prV b)).run P w=.ok (decide (a=b)) w:=by
 have g:Qj P e=some true:=by unfold Qj;rw[j]
 obtain⟨i,hi⟩:=A6a.1 hi;unfold prV;rw[run_equalIn_array w (d+2) _ _ O hi,N];obtain⟨⟨a1,a2⟩,a3,m⟩:=a;obtain⟨⟨n,u⟩,z,C⟩:=b;rw[show List.range 2 = [0,1] from rfl];simp only[Op.eqItems,Sem.run_bind,A58,A3i];rw[Jq g h,Result.andThen_ok,Jq g h,Result.andThen_ok];have K:=Qn E j F H J d (a1,a2) (n,u) w;have L:=Qn E j F H J d (a3,m) (z,C) w;unfold Ap at K L;have Q:(#[Value.int .i64 a1,.string (mkS a2),.int .i64 a3,.string (mkS m)].extract 0 (0+2)) = #[.int .i64 a1,.string (mkS a2)]:=rfl;have R:(#[Value.int .i64 n,.string (mkS u),.int .i64 z,.string (mkS C)].extract 0 (0+2)) = #[.int .i64 n,.string (mkS u)]:=rfl;have T:(#[Value.int .i64 a1,.string (mkS a2),.int .i64 a3,.string (mkS m)].extract 2 (2+2)) = #[.int .i64 a3,.string (mkS m)]:=rfl;have U:(#[Value.int .i64 n,.string (mkS u),.int .i64 z,.string (mkS C)].extract 2 (2+2)) = #[.int .i64 z,.string (mkS C)]:=rfl;simp only[Q,R,K,Result.andThen_ok];by_cases e:((a1,a2):Par)=(n,u)
 ·simp only[e,decide_true,A72,A4z,if_false,Sem.run_bind];rw[Jq g h,Result.andThen_ok,Jq g h,Result.andThen_ok];simp only[T,U,L,Result.andThen_ok];by_cases I:((a3,m):Par)=(z,C)
  ·simp[I]
  simp[I]
 simp[e]
def Agq {t e ti ts:TypeId}{k:IntKind}(F:P.underlying t=some (.array 2 e))(g:szB P e=some 2)
 (n:(P.fieldsOf e).toList.map Abc = [(true,ti,0),(true,ts,1)]) (j:P.underlying e=some (.struct (P.fieldsOf e))) (u:P.underlying ti=some (.int k)) (z:P.underlying ts=some .string) (h:Bool) (d:Nat) (a:Par×Par) (w:World) :
 (Instr.checkKey h (d+3) t (prV a)).run P w=.ok () w:=by
 have m:Qj P e=some true:=by unfold Qj;rw[j]
 unfold prV;rw[Instr.checkKey];simp only[Sem.run_bind,run_underlying F,Result.andThen_ok];have C:=Ns n j u z h d a.1 w;have E:=Ns n j u z h d a.2 w;unfold Ap at C E;have H:(#[Value.int .i64 a.1.1,.string (mkS a.1.2),.int .i64 a.2.1,.string (mkS a.2.2)].extract 0 (0+2)) = #[.int .i64 a.1.1,.string (mkS a.1.2)]:=rfl;have I:(#[Value.int .i64 a.1.1,.string (mkS a.1.2),.int .i64 a.2.1,.string (mkS a.2.2)].extract 2 (2+2)) = #[.int .i64 a.2.1,.string (mkS a.2.2)]:=rfl;simp only[Std.Legacy.Range.forIn_eq_forIn_range',Std.Legacy.Range.size,A6t,Nat.add_one_sub_one,Ba5,show List.range' 0 2 1 = [0,1] from rfl,List.forIn_cons,List.forIn_nil,Sem.run_bind,Bf g,Result.andThen_ok,A58,A3i];rw[Jq m g,Result.andThen_ok,H,C];simp only[Result.andThen_ok,Sem.run_pure,Sem.run_bind,Bf g,A3i];rw[Jq m g,Result.andThen_ok,I,E];simp
end
theorem I1:Zk prog 175 prV :=
 ⟨fun a b w=>Ahc (P:=prog) (t:=175) (e:=118) (ti:=3) (ts:=9) (k:=.i64) kV kV kV kV kV kV kV kV kV 9997 a b w,
  ⟨_,(by kernel_rfl:prog.underlying 175=some (.array 2 118)),.inl fun _ _=>rfl⟩,
  fun e a w=>Agq (P:=prog) (t:=175) (e:=118) (ti:=3) (ts:=9) (k:=.i64) kV kV kV kV kV kV e 9997 a w,Ava,Auq⟩
end
section
variable [Cl]
open Go.MapKept
def Tt {α β:Type}(f:α->β):∀ {l:List α} {x y:α},(l.map f).Nodup->x∈l->y∈l->f x=f y->x=y
 |[],_,_,_,h,_,_=>by simp at h
 |a::l,x,y,hn,j,g,e=>by
  simp only[A2u,A4j]at hn;rcases A1g.1 j with t|j
  ·subst t;rcases A1g.1 g with n|g
   ·exact n.symm
   exact absurd (A1b.2 ⟨y,g,e.symm⟩) hn.1
  rcases A1g.1 g with n|g
  ·rw[n]at e;exact absurd (A1b.2 ⟨x,j,e⟩) hn.1
  exact Tt f hn.2 j g e
theorem Ym {α β:Type}(f:α->β):∀ {L l:List α},(L.map f).Nodup->(∀ p∈L,p∈l)->L.length<=l.length
 |[],_,_,_=>A1t _
 |a::L,l,hn,hs=>by
  simp only[A2u,A4j]at hn;obtain⟨s,t,rfl⟩:=A6k (hs a mV);have:=Ym f (L:=L) (l:=s++t) hn.2 (fun p hp=>by
   have h1:=hs p (by simp[hp]);have hne:p≠a:=fun e=>hn.1 (by rw[<-e];exact A1b.2 ⟨p,hp,rfl⟩);simp only[A1h,A1g]at h1⊢;rcases h1 with h|h|h
   ·exact .inl h
   ·exact absurd h hne
   ·exact .inr h)
  simp only[A1d,A3f]at this⊢;omega
section
variable {κ:Type} [DecidableEq κ] {enc:κ->Value}
structure Gj (enc:κ->Value)(es:Array MapEntry)(l:List (κ×Value))(D:List MapEntry)(L:List (κ×Value)):Prop where
 it:Vo es D
 kv:D.map (fun e=>(e.key,e.val))=L.map (fun p=>(enc p.1,p.2))
 sub:∀ p∈L,p∈l
 nod:(L.map (·.1)).Nodup
def Gj.nil (es:Array MapEntry)(l:List (κ×Value)):Gj enc es l [] []:=⟨Vo.nil es,rfl,mV,mV⟩
def Gj.snoc (E:∀ a b,enc a=enc b->a=b){es:Array MapEntry}{l:List (κ×Value)}{D:List MapEntry}{L:List (κ×Value)}(O:es.toList.map (fun e=>(e.key,e.val))=l.map (fun p=>(enc p.1,p.2)))(Q:(l.map (·.1)).Nodup)
 (h:Gj enc es l D L) {e:MapEntry} (N:e∈es.toList) (hi:Vo es (D++[e])):∃ p,p∈l/\e.key=enc p.1/\e.val=p.2/\p.1∉L.map (·.1)/\Gj enc es l (D++[e]) (L++[p]):=by
 have T:(e.key,e.val)∈l.map (fun p=>(enc p.1,p.2)):=by rw[<-O];exact A1b.2 ⟨e,N,rfl⟩
 obtain⟨p,hp,g⟩:=A1b.1 T;simp only[A2i]at g;have F:(es.toList.map (·.key)).Nodup:=by
  have R:es.toList.map (·.key)=(l.map (·.1)).map enc:=by
   have:=congrArg (List.map (·.1)) O;simpa[Function.comp_def] using this
  rw[R];exact List.pairwise_map.2 (Q.imp fun H j=>H (E _ _ j))
 have t:p.1∉L.map (·.1):=by
  intro W;obtain⟨q,n,J⟩:=A1b.1 W;have I:q=p:=Tt (·.1) Q (h.sub q n) hp J;subst I;have U:(enc q.1,q.2)∈D.map (fun e=>(e.key,e.val)):=by rw[h.kv];exact A1b.2 ⟨q,n,rfl⟩
  obtain⟨j,z,C⟩:=A1b.1 U;simp only[A2i]at C;have:j=e:=Tt (·.key) F (h.it.sub j z) N (C.1.trans g.1);subst this;have:=hi.nod;rw[A1i,A4p]at this;exact this.2.2 j.born (A1b.2 ⟨j,z,rfl⟩) j.born mV rfl
 refine⟨p,hp,g.1.symm,g.2.symm,t,hi,?_,fun q n=>?_,?_⟩
 ·rw[A1i,A1i,h.kv];simp[g.1,g.2]
 ·rcases A1h.1 n with n|n
  ·exact h.sub q n
  simp at n;subst n;exact hp
 rw[A1i,A4p];exact⟨h.nod,mV,fun a V b K j=>t (by simp at K;rw[<-K,<-j];exact V)⟩
def Gj.all (n:∀ a b,enc a=enc b->a=b){es:Array MapEntry}{l:List (κ×Value)}{D:List MapEntry}{L:List (κ×Value)}(F:es.toList.map (fun e=>(e.key,e.val))=l.map (fun p=>(enc p.1,p.2)))
 (h:Gj enc es l D L) (hp:D.Perm es.toList):∀ p∈l,p∈L:=by
 intro p t;have z:(enc p.1,p.2)∈es.toList.map (fun e=>(e.key,e.val)):=by rw[F];exact A1b.2 ⟨p,t,rfl⟩
 obtain⟨e,E,g⟩:=A1b.1 z;have C:(e.key,e.val)∈L.map (fun p=>(enc p.1,p.2)):=by rw[<-h.kv];exact A1b.2 ⟨e,hp.mem_iff.2 E,rfl⟩
 obtain⟨q,H,j⟩:=A1b.1 C;simp only[A2i]at j g;have:q=p:=A6z (n _ _ (j.1.trans g.1)) (j.2.trans g.2);subst this;exact H
def Gj.len {es:Array MapEntry}{l:List (κ×Value)}{D:List MapEntry}{L:List (κ×Value)}(h:Gj enc es l D L):L.length<=l.length:=Ym (·.1) h.nod h.sub
end
section rules
variable {P:Program} [A6 P] {fn:Func} {Post:Ce} {st:List KI×S} {u m:PH}
variable {κ:Type} [DecidableEq κ] {enc:κ->Value}
def G.mapNextL (n:∀ a b,enc a=enc b->a=b)(t g:Nat)(es:Array MapEntry)(j:Nat)(l:List (κ×Value))(D:List MapEntry)(L:List (κ×Value))(h:Ni P (adv P st)=.next (.pointer (some ⟨t,0,none⟩)))(C:Vl (adv P st)=true)
 (hi:m t=some (.mapIter (some g) j (Ar D) j)) (Q:u g=some (.map es j)\/m g=some (.map es j)) (T:Stamped es j) (J:es.toList.map (fun e=>(e.key,e.val))=l.map (fun p=>(enc p.1,p.2))) (R:(l.map (·.1)).Nodup) (z:Gj enc es l D L)
 (U:(∀ p∈l,p∈L)->G P fn Post (nx (adv P st) (.tuple #[.bool false])) u m)
 (V:∀ p e,p∈l->p.1∉L.map (·.1)->e∈es.toList->e.key=enc p.1->e.val=p.2->Gj enc es l (D++[e]) (L++[p])->G P fn Post (nx (adv P st) (.tuple #[.bool true,enc p.1,p.2])) u (m.upd t (.mapIter (some g) j (Ar (D++[e])) j))):G P fn Post st u m:=by
 refine G.mapNext t g es j D h C hi Q T z.it (fun hp=>U (z.all n J hp)) (fun e I E=>?_);obtain⟨p,K,F,H,N,O⟩:=z.snoc n J R I E;rw[F,H];exact V p e K N I F H O
end rules
end
section
variable {k n:Nat}{q:Rat}{s:Src}{ts:List Int}{u:PH}
def A0c {x:Int}(j:-9223372036854775808<=x)(m:x<=9223372036854775807)(e:0<n)(g:n<=1000000) :
 Fn0 prog 56 [.int .i64 x,.int .i64 n] u fun v _=>∃ r:Nat,v=.int .i64 r/\r<n:=by
 refine Fn0.o func56<|G.lF n 1 ?_;have a1:=Baj x (show (0:Int)<n by omega);have a2:=Bak x (show (0:Int)<n by omega);refine G.remZ x (n:Int) (x.tmod n) kV oV oV rfl<|G.add (x.tmod n) (n:Int) (x.tmod n+n) kV rfl oV oV ?_;obtain⟨y,h⟩:∃ y:Nat,x.tmod n+n=(y:Int):=⟨(x.tmod n+n).toNat,oV⟩;exact G.remZ (x.tmod n+n) (n:Int) ((y%n:Nat):Int) kV oV oV (by rw[h,A47 oV];rfl)<|G.r _ ⟨rfl,y%n,rfl,A29 _ e⟩
def Azm (s:Src)(n:Nat)(v:Value)(m':PH):Prop:=∃ r k:Nat,v=.int .i64 r/\r<n/\k<=s.n/\m'=s.M k
def I4 (h:J0 u s ts)(F:k<=s.n)(H:0<n)(z:n<=1000000) :
 Ag prog 14 [s.ptr,.int .i64 n] u (s.M k) fun v _ N=>Azm s n v N:=by
 have C:=h.n;have K:=h.le;refine Ag.o func14<|G.f 102 s.g 0 1 1<|G.lM none s.g (0+1) (.int .i64 k) (s.cell1 k)<|G.f 102 s.g 0 0 0<|G.lM none s.g (0+0) (.slice s.a s.n s.c) (s.cell0 k) ?_;by_cases t:k<s.n
 ·refine G.hF k s.n<|G.f 102 s.g 0 1 1<|G.lM none s.g (0+1) (.int .i64 k) (s.cell1 k)<|G.i k<|G.f 102 s.g 0 1 1<|G.storeM 1 s.g (0+1) 102 [.slice s.a s.n s.c,.int .i64 k] (.int .i64 (k+1:Nat)) kV (Ab _ _ _) (fun x I=>by simp at I;rcases I with rfl|rfl<;>rfl) mV rfl rfl ?_
  have e:(s.M k).upd s.g (.cells (([Value.slice s.a s.n s.c,.int .i64 k].take (0+1))++(Value.int .i64 (k+1:Nat)).cells.toList++([Value.slice s.a s.n s.c,.int .i64 k].drop (0+1+1))).toArray 102 (0,0))=s.M (k+1):=by
   unfold Src.M;rw[Dp];rfl
  rw[e];refine G.f 102 s.g 0 0 0<|G.lM none s.g (0+0) (.slice s.a s.n s.c) (s.cell0 (k+1))<|G.f 102 s.g 0 1 1<|G.lM none s.g (0+1) (.int .i64 (k+1:Nat)) (s.cell1 (k+1))<|G.s (k+1:Nat) 1 k ?_;have m:k<ts.length:=oV;obtain⟨b,off,E,J⟩:=Ac.at' h.list (j:=k) (e:=.int .i64 ts[k]) (by simp[Fc,A01 m]);obtain⟨g,a,O,c⟩:=s;simp only at E t F C;subst E;refine G.a b off O c k 1 t<|G.lU none b (off+k*1) (.int .i64 ts[k]) J<|G.c call56 (A0c (h.lo _ (A09 m)) (h.hi _ (A09 m)) H z) ?_;rintro R Q P ⟨r,rfl,L⟩;exact G.r _ ⟨r,k+1,rfl,L,dV,rfl⟩
 exact G.hT k s.n<|G.r (.int .i64 0) ⟨0,k,rfl,H,F,rfl⟩
def Anm {lo hi:Int}(h:J0 u s ts)(z:k<=s.n)(C:-1000000<=lo)(t:lo<=1000000)(E:hi-lo+1=(n:Int))(j:0<n)(m:n<=1000000) :
 Ag prog 181 [s.ptr,.int .i64 lo,.int .i64 hi] u (s.M k) fun v _ H=>∃ (r:Nat) (e:Nat),v=.int .i64 (lo+(r:Int))/\r<n/\e<=s.n/\H=s.M e:=by
 refine Ag.o func181<|G.sub hi lo (hi-lo) kV rfl oV oV<|G.add (hi-lo) 1 (n:Int) kV E oV oV<|G.A call14 (I4 h z j m) ?_;rintro L K J I ⟨r,e,rfl,F,g,rfl⟩ _;rw[By];exact G.add lo (r:Int) (lo+(r:Int)) kV rfl oV oV<|G.r _ ⟨r,e,rfl,F,g,rfl⟩
def Aer {v:Value}{L:List Int}(h:J0 u s ts)(H:k<=s.n)(m:Ac u v 1 (Fc L))(C:0<L.length)(E:L.length<=1000000) :
 Ag prog 88 [s.ptr,v] u (s.M k) fun v _ J=>∃ z∈L,∃ g:Nat,v=.int .i64 z/\g<=s.n/\J=s.M g:=by
 obtain⟨a,c,rfl⟩:=m.opn;rw[Cq]at m⊢;refine Ag.o func88<|G.A call14 (I4 h H C E) ?_;rintro O N K I ⟨r,g,rfl,F,t,rfl⟩ _;rw[By];obtain⟨b,off,rfl,e⟩:=Ac.at' (m.mono I) (j:=r) (e:=.int .i64 L[r]) (by simp[Fc,A01 F]);exact G.a b off L.length c r 1 F<|G.lU none b (off+r*1) (.int .i64 L[r]) e<|G.r _ ⟨L[r],A09 F,g,rfl,t,rfl⟩
structure SmR (q:Rat):Prop where
 num:q.num.natAbs<=9
 den:q.den ∣ 12
def SmR.le (h:SmR q):q.den<=12:=A48 oV h.den
def SmR.tx (h:SmR q):Tx q:=⟨A04 (Cz (k:=2) oV (by have:=h.num;omega)) oV,A04 (Cz (k:=2) oV (by have:=h.le;omega)) oV⟩
def SmR.sz (h:SmR q):Sz q 1:=⟨A4 (by have:=h.num;omega),A4 (by have:=h.le;omega)⟩
structure SmW (q:Rat):Prop where
 num:q.num.natAbs<=1545
 den:q.den ∣ 12
def SmR.w (h:SmR q):SmW q:=⟨A04 h.num oV,h.den⟩
def SmW.le (h:SmW q):q.den<=12:=A48 oV h.den
def SmW.tx (h:SmW q):Tx q:=⟨A04 (Cz (k:=4) oV (by have:=h.num;omega)) oV,A04 (Cz (k:=2) oV (by have:=h.le;omega)) oV⟩
def SmW.sz (h:SmW q):Sz q 1:=⟨A4 (by have:=h.num;omega),A4 (by have:=h.le;omega)⟩
end
section
section rules
variable [Cl] {P:Program} [A6 P] {fn:Func} {Post:Ce} {st:List KI×S} {u m:PH}
def G.appendM (e:TypeId)(sz T:Nat)(z:Value)(m0:PH)(es xs:List Value)(v:Value)(b off n c:Nat)(h:Aj P (adv P st)=.app (some (e,sz,T,z)) true [v,.slice (some ⟨b,off,none⟩) n c])(hz:z.cells.toList.all Ax=true)(Q:z.cells.size=sz)(H:0<sz)
 (ha:Af m0 m v e sz es) (hx:Hc m b off sz xs) (U:A9 sz xs) (hn:xs.length=n) (N:0<n) (hb:(es.length+n)*T<=140737488355328) (I:es.length+n<=9223372036854775807)
 (k:∀ j g,Af m0 g j e sz (es++xs)->G P fn Post (nx (adv P st) j) u g):G P fn Post st u m:=by
 refine G.big (K:=fun j V g=>V=u/\Af m0 g j e sz (es++xs)) h mV (fun E R O=>(Ew (P:=P) (o:=⟨none,R,0, "",#[],none⟩) O).2.1) (.inr fun E R O=>(Ew (P:=P) (o:=⟨none,R,0, "",#[],none⟩) O).1) (fun E o C w F=>?_) (fun j V g _ L=>?_)
 ·obtain⟨_,_,t,hi,J⟩:=Ew (P:=P) C;obtain⟨j,w',g,W,X,Y,Z⟩:=Rz (P:=P) m0 es xs v b off n c o.type hi hz Q H ha U hn N hb I F (hx.cells H U F.pm);refine B8 (w':=w') (v:=j) ?_ ⟨u,g,X,Y,rfl,Z⟩;rw[J w,W];rfl
 obtain⟨rfl,L⟩:=L;exact k j g L
end rules
def Src.h0 (s:Src)(k k':Nat)(g:Nat):s.M k g=none\/s.M k' g≠none:=by
 by_cases e:g=s.g
 ·subst e;right;unfold Src.M;rw[Ab];simp
 left;unfold Src.M;rw[Ad _ _ e];rfl
def As9 {u:PH}{v:Value}{ts:List Int}(h:Ac u v 1 (Fc ts))(E:ts.length<=600)(z:∀ t∈ts,-9223372036854775808<=t)(C:∀ t∈ts,t<=9223372036854775807) :
 Ag prog 9 [v] u PH.mt fun I H F=>∃ s:Src,I=s.ptr/\F=s.M 0/\J0 H s ts:=by
 have e:∃ a c,v=.slice a ts.length c/\ts.length<=c:=by
  obtain⟨a,c,j,n,_⟩:=h;rw[Cq]at j n;exact⟨a,c,j,n⟩
 obtain⟨a,c,rfl,e⟩:=e;refine Ag.o func9<|G.minI [3,3] (ts.length:Int) 600 (ts.length:Int) kV oV<|G.sliceTo 1 a ts.length c ts.length kV e<|G.pub 1006 102 [.slice a ts.length c,.int .i64 0] kV kV ?_;intro g K J;exact G.r (.pointer (some ⟨g,0,none⟩)) ⟨⟨g,a,ts.length,c⟩,rfl,rfl,h,rfl,E,z,C⟩
def Src.bag0 (s:Src)(k:Nat){l:List Arr}(h:Bag PH.mt l):Bag (s.M k) (s.arr k::l):=by
 have:=Src.at (s:=s) (k:=k) (m0:=PH.mt) rfl;rw[By]at this;exact⟨PH.mt,this,h⟩
def Aff {o l:Arr}{e:List Arr}:(l::o::e).Perm (o::(e++[l])):=by
 refine (List.Perm.swap _ _ _).trans (List.Perm.cons _ ?_);exact (List.perm_append_singleton l e).symm
def Avd {M:List (List Rat)}{q:List Rat}(i:Nat):gM (M++[q]) i=if i<M.length then gM M i else if i=M.length then q else []:=by
 unfold gM;rw[A02];by_cases e:i<M.length
 ·rw[if_pos e,A1r e,A02]
 rw[if_neg e,A18 oV];by_cases g:i=M.length
 ·rw[if_pos g,g,A4i];rfl
 rw[if_neg g,A1v gV];rfl
end
section
variable {l o s:Arr}{rows:List Arr}
def Aor :(s::l::o::rows).Perm (s::o::(rows++[l])):=List.Perm.cons _ Aff
def S8 :(l::s::o::rows).Perm (s::o::(rows++[l])):=(List.Perm.swap _ _ _).trans Aor
def Un {rows:List (Value×List Value)}{i:Nat}{r r':Value×List Value}(h:rows[i]?=some r)(e:r'.1=r.1):(rows.set i r').map (·.1)=rows.map (·.1):=by
 rw[A2g];apply A4g;intro j;rw[A1z];split
 ·rename_i e';subst e';have m:i<rows.length:=by
   rcases A2e i rows.length with g|g
   ·exact g
   rw[A1v g]at h;cases h
  rw[if_pos (by simpa using m),A1a,h,e];rfl
 rfl
end
def Axo {n:Nat}(f:Nat->Rat){j:Nat}(e:j<n):gR ((List.range n).map f) j=f j:=by
 unfold gR;rw[A02,A1a,A31 e];rfl
end Go.Proofs.YtemmheaocgmebaaGreatDoor
