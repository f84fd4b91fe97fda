/- Parts of one proof, joined by a program. -/
import Derived.Test.YtemmheaocgmebaaGreatDoorS13
set_option linter.defProp false
set_option linter.unusedVariables false
set_option linter.unusedSimpArgs false
set_option linter.unusedSectionVars false
set_option maxHeartbeats 16000000
namespace Go.Proofs.YtemmheaocgmebaaGreatDoor
open Go.Proofs.Tryz
open Go.RowKit Go.MapKept
section
variable {ts:zW}{v:Value}
def At2 {u:PH}{q:Rat}(h:Tx q):zF 228 [zS (Ae q)] u fun v _=>v=zL:=by
 refine Fn0.o func228<|G.c call169 (Gu h) ?_;rintro m j e rfl;exact G.z zL
def Ue {u:PH}(h:Cj u v ts)(hT:∀ t∈ts,∃ q,t=Ae q/\Tx q)(m:ts.length<=1000):zF 177 [v] u fun r _=>r=zT:=by
 obtain⟨a,c,rfl⟩:=Ac.opn h;refine Fn0.o func177<|G.c call167 (Lc (fid:=228) h oV call228 (fun t j C _=>?_)) ?_
 ·obtain⟨q,rfl,e⟩:=hT t j;exact At2 e
 rintro F E l2 rfl;exact G.z zT
def Arw {e:zR}(h:∀ q∈e,Tx q):∀ t∈e.map Ae,∃ q,t=Ae q/\Tx q:=fun t m=>by
 obtain⟨q,j,rfl⟩:=A1b.1 m;exact⟨q,rfl,h q j⟩
def At4 {u:PH}(h:Cj u v ts)(hT:∀ t∈ts,∃ q,t=Ae q/\Tx q)(e:ts.length<=1000):zF 178 [v] u fun r _=>r=zL:=by
 have j:=Ue h hT e;obtain⟨a,c,rfl⟩:=Ac.opn h;refine Fn0.o func178<|G.c call177 j ?_;rintro E C m rfl;exact G.z zL
def Amc {u:PH}{g n:Nat}(h:Cj u v ts)(j:ts.length=n)(e:u g=some (.cells #[.int .i64 n] 3 (0,0))):Fn0 prog 176 [v,.pointer (some ⟨g,0,none⟩)] u fun r _=>r=.bool false:=by
 obtain⟨a,c,rfl⟩:=Ac.opn h;rw[Cb,j];exact Fn0.o func176<|G.lU none g 0 (.int .i64 n) (Po e (G2 rfl rfl))<|G.nF n n<|G.z (.bool false)
section
variable {u:PH} {pa xa ra a1 a2 a3:zP} {n pc xc rc n1 c1 n2 c2 n3 c3:Nat} {lab:Int} {X:zM} {b:zR} {s c q:Rat}
def stV (pa:zP)(n pc:Nat)(xa:zP)(xc:Nat)(ra:zP)(rc:Nat)(s c q:Rat)(a1:zP)(n1 c1:Nat)(a2:zP)(n2 c2:Nat)(a3:zP)(n3 c3:Nat)(lab:Int):Value :=
 .agg #[.slice pa n pc,.slice xa (n+1) xc,.slice ra (n+1) rc,zS (Ae s),zS (Ae c),zS (Ae q),.slice a1 n1 c1,.slice a2 n2 c2,.slice a3 n3 c3,zI lab]
def Xy (E:C7 u (.slice xa (n+1) xc) (Cv X))(t:X.length=n+1)(I:∀ r∈X,r.length=n+1)(L:n<=1000) :
 Fn0 prog 100 [stV pa n pc xa xc ra rc s c q a1 n1 c1 a2 n2 c2 a3 n3 c3 lab] u fun r _=>r=.bool true:=by
 refine Fn0.o func100<|G.i n<|G.pub 1005 3 [.int .i64 (n+1:Nat)] kV kV ?_;intro g F H;generalize e:PH.mt.upd g _=mm;have C:mm g=some (.cells #[.int .i64 (n+1:Nat)] 3 (0,0)):=by rw[<-e,Ab]
 clear e;refine G.giveP (ma:=mm) (sm:=PH.mt) kV (by funext g;unfold PH.or;cases mm g<;>rfl) (fun g=>.inr rfl) (fun g=>.inl rfl) ?_
 intro R l2 j;have h:=j _ _ C;refine G.lU none g 0 (.int .i64 (n+1:Nat)) (Po h (G2 rfl rfl))<|G.eT' (n+1:Nat) (n+1:Nat) rfl<|G.lU none g 0 (.int .i64 (n+1:Nat)) (Po h (G2 rfl rfl))<|G.eT' (n+1:Nat) (n+1:Nat) rfl<|G.c call175 (Gd (fid:=176) (cap:=[.pointer (some ⟨g,0,none⟩)]) (E.mono l2) (by rw[A3];omega) call176 (fun r m Q x t J=>?_)) ?_
 ·obtain⟨y,K,rfl⟩:=Mg m;exact Amc J (by rw[A03,I y K]) (t _ _ h)
 rintro U T P rfl;exact G.z (.bool true)
def Uw (J:C7 u (.slice xa (n+1) xc) (Cv X))(H:Cj u (.slice ra (n+1) rc) (b.map Ae))(R:X.length=n+1)(U:∀ r∈X,r.length=n+1)(L:b.length=n+1)(hT:∀ r∈X,∀ x∈r,Tx x)(K:∀ x∈b,Tx x)(V:Tx s)(P:Tx c)(T:Tx q)(hn:n<=900) :
 zF 101 [stV pa n pc xa xc ra rc s c q a1 n1 c1 a2 n2 c2 a3 n3 c3 lab] u fun r _=>r=zT:=by
 refine Fn0.o func101<|G.c call177 (Ue H (Arw K) (by rw[A03];omega)) ?_;rintro v1 u1 Y rfl;refine G.buildU 34 1 16 zE (Cc [Ae s,Ae c,Ae q]) kV (Gc _) rfl oV (by simp[Cc]) (by simp[Cc]) ?_;intro g2 u2 l2 F;have I:Cj u2 (zG g2 3 3) [Ae s,Ae c,Ae q]:=⟨_,3,rfl,A08 _,fun j e Q=>⟨g2,0,rfl,F j e Q⟩⟩;refine G.c call177 (Ue I (fun t C=>by
  simp only[A1g,A11,or_false]at C;rcases C with rfl|rfl|rfl
  ·exact⟨_,rfl,V⟩
  ·exact⟨_,rfl,P⟩
  exact⟨_,rfl,T⟩) mV) ?_
 rintro v3 u3 Z rfl;have m:=(Y.trans l2).trans Z;refine G.c call175 (Gd (fid:=178) (cap:=[]) (J.mono m) (by rw[A3];omega) call178 (fun r h u' x R W=>?_)) ?_
 ·obtain⟨y,E,rfl⟩:=Mg h;exact At4 W (Arw (hT y E)) (by rw[A03,U y E];omega)
 rintro v4 u4 l4 rfl;exact G.z zT
end
section
variable {u:PH} {xv yv:Value} {X:zM} {x y:zR} {n:Nat}
def As6 (hx:F6 u xv x)(hy:F6 u yv y)(hl:x.length=n)(T:y.length=n)(hn:n<=100){S S':Nat}(hS:SzL x S)(P:SzL y S')(a0:n*(S+S'+1)<=100000000) :
 zF 69 [xv,yv] u fun r W=>Bg W r (Vq n (gR x) (gR y))/\Sz (Vq n (gR x) (gR y)) (1+n*(S+S'+1)):=by
 obtain⟨es,L,F⟩:=id hx;obtain⟨es',m,H⟩:=id hy;have hF:AtP Bg u es x:=F;have hF':AtP Bg u es' y:=H;clear F H;obtain⟨a,c,rfl⟩:=L.opn;obtain⟨a',Y,rfl⟩:=m.opn;rw[hF.1,hl]at L⊢;rw[hF'.1,T]at m⊢;clear hx hy;refine Fn0.o func69<|G.c call128 (Wa (z:=0) oV oV) ?_;intro v1 u1 K V;rw[show ((0:Int):Rat)=0 from rfl]at V;obtain⟨f1,rfl⟩:=V.opF;refine G.l (ι:=Nat×F4) (fun i=>[(0,sV a n c),(1,sV a' n Y),(4,.p 0 0),(5,.p 1001 0),(9,iV n),(10,iV i.1)])
  (fun i=>[(0,⟨143,[bF,sN,bF,sN]⟩),(1001,⟨143,fc i.2⟩)])
  (fun i W m'=>i.1<=n/\Bg W (fv i.2) (Bb i.1 fun t=>gR x t*gR y t)/\Sz (Bb i.1 fun t=>gR x t*gR y t) (1+i.1*(S+S'+1))/\m'=PH.mt) (fun i=>n-i.1) (0,f1) ⟨oV,V,Q3.mono oV,rfl⟩ ?_
 rintro J ⟨i,f⟩ Z u2 m2 l2 ⟨hi,R,h,rfl⟩;simp only at hi R h Z;by_cases I:i<n
 ·refine G.lT i n ?_;have C:i<x.length:=oV;have E:i<y.length:=oV;have hb:i*(S+S'+1)<=n*(S+S'+1):=A13 _ hi;have a4:S+S'+1<=n*(S+S'+1):=Nat.le_mul_of_pos_left _ oV;obtain⟨e,he,k⟩:=hF.at (j:=i) C;obtain⟨e',Q,U⟩:=hF'.at (j:=i) E;rw[<-Cu C]at k;rw[<-Cu E]at U;obtain⟨g,rfl⟩:=k.opF;obtain⟨g',rfl⟩:=U.opF;obtain⟨b1,o1,rfl,e1⟩:=Ac.at' (L.mono (K.trans l2)) he;obtain⟨b2,o2,rfl,e2⟩:=Ac.at' (m.mono (K.trans l2)) Q;refine G.N n c I e1<|G.N n Y I e2 ?_;have s1:Sz (gR x i) S:=hS.at C;have s2:Sz (gR y i) S':=P.at E;have sm:=Fx s1 s2;refine G.c call130 (Ga (k.mono (K.trans l2)) (U.mono (K.trans l2)) (s1.mono oV) (s2.mono oV)) ?_;intro v3 u3 l3 k3;obtain⟨f3,rfl⟩:=k3.opF;refine G.c call129 (Lq (R.mono l3) k3 (h.mono oV) (sm.mono oV)) ?_;intro v4 u4 l4 k4;obtain⟨f4,rfl⟩:=k4.opF;refine G.i i<|G.b (Z (i+1,f4) _ _ _ cV ((l2.trans l3).trans l4) ⟨dV,by dsimp only;rw[Ds];exact k4,?_,rfl⟩ dV);dsimp only;rw[Ds];refine (R5 h sm).mono ?_;rw[Nat.succ_mul];omega
 obtain rfl:i=n:=oV;exact G.lF i i<|G.r (fv f) ⟨rfl,R,h⟩
end
end
section
variable {X:zM}{n:Nat}{x:zR}
def Alj (X:zM):Bool->Nat->Nat->Rat
 |false,i,k=>en X i k
 |true,i,k=>en X k i
def Io (n:Nat)(X:zM)(x:zR)(cb:Bool):zR:=(List.range n).map fun i=>Bb n fun k=>Alj X cb i k*gR x k
def F1 (n:Nat)(X:zM)(x:zR)(e:Bool):(Io n X x e).length=n:=by simp[Io]
def Xv {e:Bool}{i:Nat}(hi:i<n):gR (Io n X x e) i=Bb n fun k=>Alj X e i k*gR x k:=by
 unfold Io gR;rw[A02,A1a,A31 hi];rfl
def Aeu {u:PH}{av xv:Value}{n S:Nat}(U:Bool)(h:C7 u av (Cv X))(hX:Rec n n X)(hT:∀ r∈X,∀ y∈r,Tx y)(hx:F6 u xv x)(hl:x.length=n)(hn:n<=100)(hS:SzL x S)(ah:n*(400+S+1)<=100000000) :
 zF 70 [av,xv,.bool U] u fun r u'=>F6 u' r (Io n X x U)/\SzL (Io n X x U) (1+n*(400+S+1)):=by
 have a3:∀ i k,i<n->k<n->Tx (en X i k):=fun i k hi hk=>by
  have F:i<X.length:=by rw[hX.1];exact hi
  have V:=hX.2 i hi;rw[Ch F]at V;have R:k<X[i].length:=oV;unfold en;rw[Ch F,Cu R];exact hT _ (A09 F) _ (A09 R)
 have Y:∀ {u':PH} {a:zP} {c:Nat} (i k:Nat),C7 u' (.slice a n c) (Cv X)->i<n->k<n->∃ b1 o1 b2 o2 c2,a=some ⟨b1,o1,none⟩/\ElP u' b1 (o1+i*1) (.slice (some ⟨b2,o2,none⟩) n c2)/\ElP u' b2 (o2+k*1) (zS (Ae (en X i k))):=fun i k hM hi hk=>by
  have F:i<X.length:=by rw[hX.1];exact hi
  have V:=hX.2 i hi;rw[Ch F]at V;have R:k<X[i].length:=oV;obtain⟨b1,o1,b2,o2,c2,e0,e1,e2⟩:=hM.cell F R;refine⟨b1,o1,b2,o2,c2,e0,by rw[<-V];exact e1,?_⟩;unfold en;rw[Ch F,Cu R];exact e2
 obtain⟨es,hL,ab⟩:=id hx;have hF:AtP Bg u es x:=ab;obtain⟨a,c,rfl⟩:=h.opn;obtain⟨xa,xc,rfl⟩:=hL.opn;rw[A3,hX.1]at h⊢;rw[hF.1,hl]at hL⊢;clear hx ab;refine Fn0.o func70<|G.make 143 4 64 Cw n kV rfl rfl oV oV oV ?_;rintro v1 m1 a6 ⟨aO,rfl⟩;obtain⟨go,rfl,_⟩:=a6.some';refine G.l (ι:=Nat×zV) (fun i=>[(0,sV a n c),(1,sV xa n xc),(2,bV U),(7,sV (zA go) n n),(16,iV n),(17,iV i.1)]) (fun _=>[])
  (fun i u' m'=>i.1<=n/\i.2.length=n/\(∀ j,j<i.1->∃ e,i.2[j]?=some e/\Bg u' e (gR (Io n X x U) j)/\Sz (gR (Io n X x U) j) (1+n*(400+S+1)))/\Af PH.mt m' (zG go n n) 143 4 i.2) (fun i=>n-i.1) (0,List.replicate n Cw)
  ⟨oV,mV,fun j H=>absurd H (Nat.not_lt_zero _),a6⟩ ?_
 clear a6;rintro J ⟨i,es1⟩ hJ u2 m2 l2 ⟨hi,L,E,a2⟩;simp only at hi L E a2 hJ;by_cases m:i<n
 ·refine G.lT i n<|G.c call128 (Wa (z:=0) oV oV) ?_;intro v3 u3 l3 k3;rw[show ((0:Int):Rat)=0 from rfl]at k3;obtain⟨f3,rfl⟩:=k3.opF;refine G.a go 0 n n i 4 m<|G.storeA 4 PH.mt es1 go n n i (fv f3) kV a2 oV rfl rfl ?_;intro m4 aa;refine G.l (ι:=Nat×zV) (fun k=>[(0,sV a n c),(1,sV xa n xc),(2,bV U),(7,sV (zA go) n n),(8,iV i),(16,iV n),(17,iV i),(24,sV xa n xc),(25,iV n),(26,iV k.1)]) (fun _=>[])
   (fun k u' m'=>k.1<=n/\k.2.length=n/\(∀ j,j<i->∃ e,k.2[j]?=some e/\Bg u' e (gR (Io n X x U) j)/\Sz (gR (Io n X x U) j) (1+n*(400+S+1)))/\(∃ f,k.2[i]?=some (fv f)/\Bg u' (fv f) (Bb k.1 fun t=>Alj X U i t*gR x t)/\Sz (Bb k.1 fun t=>Alj X U i t*gR x t) (1+k.1*(400+S+1)))/\Af PH.mt m' (zG go n n) 143 4 k.2) (fun k=>n-k.1) (0,es1.set i (fv f3))
   ⟨oV,by dsimp only;rw[A21];exact L,fun j H=>by
    obtain⟨e,F,V,R⟩:=E j H;exact⟨e,by dsimp only;rw[A1z,if_neg oV];exact F,V.mono l3,R⟩,⟨f3,by dsimp only;rw[A1z,if_pos rfl,if_pos oV],k3,Q3.mono oV⟩,aa⟩ ?_
  clear E a2 aa L;rintro J2 ⟨k,W⟩ a8 u5 m5 l5 ⟨hk,P,Q,K,T⟩;simp only at hk P Q K T a8;have a5:=(l2.trans l3).trans l5;by_cases C:k<n
  ·refine G.lT k n ?_;have a4:k<x.length:=oV;obtain⟨e,he,kx⟩:=hF.at (j:=k) a4;rw[<-Cu a4]at kx;obtain⟨g,rfl⟩:=kx.opF;have ac:=kx.mono a5;obtain⟨bx,ox,rfl,ex⟩:=Ac.at' (hL.mono a5) he;refine G.N n xc C ex ?_;obtain⟨b1,o1,b2,o2,c2,rfl,e1,e2⟩:=Y i k (h.mono a5) m C;refine G.N n c m e1<|G.N n c2 C e2 ?_;cases U
   ·have hA:i<n:=m;obtain⟨fq,Z,a0,I⟩:=K;have hb:k*(400+S+1)<=n*(400+S+1):=A13 _ hk;have ae:400+S+1<=n*(400+S+1):=Nat.le_mul_of_pos_left _ oV;refine G.O n n m (T.el Z)<|G.c call133 (Gs (a3 i k m C)) ?_;intro v6 u6 l6 k6;obtain⟨f6,rfl⟩:=k6.opF;have s1:Sz (en X i k) 400:=(a3 i k m C).sz;have s2:Sz (gR x k) S:=hS.at a4;have sm:=Fx s1 s2;refine G.c call130 (Ga k6 (ac.mono l6) (s1.mono oV) (s2.mono oV)) ?_;intro v7 u7 l7 k7;obtain⟨f7,rfl⟩:=k7.opF;refine G.c call129 (Lq (a0.mono (l6.trans l7)) k7 (I.mono oV) (sm.mono oV)) ?_;intro v8 u8 l8 k8;obtain⟨f8,rfl⟩:=k8.opF;refine G.a go 0 n n i 4 m<|G.storeA 4 PH.mt W go n n i (fv f8) kV T oV rfl rfl ?_;intro m9 a7;have a1:=(l6.trans l7).trans l8;refine G.i k<|G.b (a8 (k+1,W.set i (fv f8)) _ _ _ cV (l5.trans a1) ⟨dV,by dsimp only;rw[A21];exact P,?_,?_,a7⟩ dV)
    ·intro j H;obtain⟨e,F,V,R⟩:=Q j H;exact⟨e,by dsimp only;rw[A1z,if_neg oV];exact F,V.mono a1,R⟩
    refine⟨f8,by dsimp only;rw[A1z,if_pos rfl,if_pos oV],by dsimp only;rw[Ds];exact k8,?_⟩;dsimp only;rw[Ds];refine (R5 I sm).mono ?_;rw[Nat.succ_mul];omega
   obtain⟨b3,o3,b4,o4,c4,e0,e3,e4⟩:=Y k i (h.mono a5) C m;cases e0;refine G.N n c C e3<|G.N n c4 m e4 ?_;obtain⟨fq,Z,a0,I⟩:=K;have hb:k*(400+S+1)<=n*(400+S+1):=A13 _ hk;have ae:400+S+1<=n*(400+S+1):=Nat.le_mul_of_pos_left _ oV;refine G.O n n m (T.el Z)<|G.c call133 (Gs (a3 k i C m)) ?_;intro v6 u6 l6 k6;obtain⟨f6,rfl⟩:=k6.opF;have s1:Sz (en X k i) 400:=(a3 k i C m).sz;have s2:Sz (gR x k) S:=hS.at a4;have sm:=Fx s1 s2;refine G.c call130 (Ga k6 (ac.mono l6) (s1.mono oV) (s2.mono oV)) ?_;intro v7 u7 l7 k7;obtain⟨f7,rfl⟩:=k7.opF;refine G.c call129 (Lq (a0.mono (l6.trans l7)) k7 (I.mono oV) (sm.mono oV)) ?_;intro v8 u8 l8 k8;obtain⟨f8,rfl⟩:=k8.opF;refine G.a go 0 n n i 4 m<|G.storeA 4 PH.mt W go n n i (fv f8) kV T oV rfl rfl ?_;intro m9 a7;have a1:=(l6.trans l7).trans l8;refine G.i k<|G.b (a8 (k+1,W.set i (fv f8)) _ _ _ cV (l5.trans a1) ⟨dV,by dsimp only;rw[A21];exact P,?_,?_,a7⟩ dV)
   ·intro j H;obtain⟨e,F,V,R⟩:=Q j H;exact⟨e,by dsimp only;rw[A1z,if_neg oV];exact F,V.mono a1,R⟩
   refine⟨f8,by dsimp only;rw[A1z,if_pos rfl,if_pos oV],by dsimp only;rw[Ds];exact k8,?_⟩;dsimp only;rw[Ds];refine (R5 I sm).mono ?_;rw[Nat.succ_mul];omega
  obtain rfl:k=n:=oV;refine G.lF k k ?_;obtain⟨fq,Z,a0,I⟩:=K;refine G.i i<|G.b (hJ (i+1,W) _ _ _ cV ((l2.trans l3).trans l5) ⟨dV,P,?_,T⟩ dV);intro j H;dsimp only at H⊢;by_cases af:j=i
  ·subst af;rw[Xv m];exact⟨_,Z,a0,I⟩
  exact Q j oV
 obtain rfl:i=n:=oV;refine G.lF i i<|G.give PH.mt es1 _ kV a2 (fun _=>.inl rfl) ?_;intro u3 l3 ad;refine G.r (zG go i i) ⟨rfl,⟨es1,ad,by rw[L,F1],fun j q H=>?_⟩,fun q hq=>?_⟩
 ·obtain⟨a9,e⟩:=A05.1 H;rw[F1]at a9;obtain⟨x1,F,V,_⟩:=E j a9;refine⟨x1,F,?_⟩;rw[<-e,<-Cu (by rw[F1];exact a9)];exact V.mono l3
 obtain⟨j,H,rfl⟩:=A3d.1 hq;have ag:j<i:=by rw[F1]at H;exact H
 obtain⟨_,_,_,R⟩:=E j ag;rwa[Cu H]at R
end
section
variable [Cl] [Co]
end
def Avx (L:List Par):A9 2 (L.map Ap):=fun x e=>by
 obtain⟨y,_,rfl⟩:=A1b.1 e;exact⟨rfl,A1o.1 rfl⟩
def Ag8 {u:PH}{v:Value}{L:List Par}(h:Ac u v 2 (L.map Ap))(h0:L≠[])(E:L.length<=1000000) :
 Ag prog 155 [v] u PH.mt fun C I t=>Af PH.mt t C 118 2 (L.map Ap):=by
 obtain⟨a,c,rfl⟩:=h.opn;have e:0<(L.map Ap).length:=by rw[A03];exact A4f.2 h0
 obtain⟨b,off,rfl,_⟩:=Ac.at' h (A01 e);refine Ag.o func155<|G.nilF 118 ⟨b,off,none⟩ (L.map Ap).length c kV<|G.build0 118 2 24 (.agg #[zO,zE]) kV ?_;intro g F m;refine G.append 118 2 24 (.agg #[zO,zE]) PH.mt [] (L.map Ap) (zG g 0 0) b off (L.map Ap).length c kV rfl rfl oV m h.els (Avx L) rfl e gV gV ?_;intro J H j;obtain⟨a2,c2,rfl⟩:=j.shape;exact G.r _ j
section
def Al5 {u:PH}{v:Value}{ts:zW}(h:Cj u v ts)(h0:ts≠[])(t:ts.length<=1000000) :
 Ag prog 156 [v] u PH.mt fun E J C=>Af PH.mt C E 34 1 (Cc ts):=by
 obtain⟨a,c,rfl⟩:=Ac.opn h;have e:0<(Cc ts).length:=by rw[Cb];exact A4f.2 h0
 obtain⟨b,off,rfl,_⟩:=Ac.at' h (A01 e);have F:(Cc ts).length<=1000000:=by rw[Cb];exact t
 refine Ag.o func156<|G.nilF 34 ⟨b,off,none⟩ (Cc ts).length c kV<|G.build0 34 1 16 zE kV ?_;intro g H m;refine G.append 34 1 16 zE PH.mt [] (Cc ts) (zG g 0 0) b off (Cc ts).length c kV rfl rfl oV m (Ac.els h) (Gc ts) rfl e gV gV ?_;intro K I j;obtain⟨a2,c2,rfl⟩:=j.shape;exact G.r _ j
section
variable {u:PH} {pa xa ra:zP} {pc xc rc:Nat} {P:List Par} {X:zM} {b:zR} {t1 t2 t3:zB}
def Yg (hP:Ac u (.slice pa P.length pc) 2 (P.map Ap))(hX:C7 u (.slice xa X.length xc) (Cv X))(hR:Cj u (.slice ra b.length rc) (b.map Ae))(h0:P≠[])(ab:b≠[])(ai:∀ r∈X,r≠[])(am:P.length<=1000)(an:X.length<=1000)(aj:∀ r∈X,r.length<=1000)(ao:b.length<=1000) :
 Ag prog 86 [.agg #[.slice pa P.length pc,.slice xa X.length xc,.slice ra b.length rc,zS t1,zS t2,zS t3]] u PH.mt fun r u' m' =>
  ∃ (R:zP) (qc:Nat) (T:zP) (U:Nat) (E:zP) (F:Nat) (e:List (Value×zV)),r=.agg #[.slice R P.length qc,.slice T X.length U,.slice E b.length F,zS t1,zS t2,zS t3] /\
   Ac u' (.slice R P.length qc) 2 (P.map Ap)/\e.map (·.2)=X.map txV/\Bag m' (Bu (.slice E b.length F,txV b)::oT (.slice T X.length U) e::e.map Bu):=by
 refine Ag.o func86<|G.callO _ _ kV call155 (Ag8 hP h0 oV) ?_;intro v1 u1 m1 l1 H _;rw[By];obtain⟨R,qc,rfl⟩:=H.shape;rw[A03]at H⊢;refine G.callO _ _ kV call156 (Al5 (Ac.mono hR l1) (by simpa using ab) (by rw[A03];omega)) ?_;intro v2 u2 m2 l2 L af;have j:=L.join af;obtain⟨E,F,rfl⟩:=L.shape;rw[Cb,A03]at j⊢;obtain⟨sm,ak,aa,a4⟩:=j.split;refine G.giveP (ma:=m1) (sm:=sm) kV ak aa (fun g=>.inl rfl) ?_;intro u3 l3 ah;have a7:Ac u3 (.slice R P.length qc) 2 (P.map Ap):=by
  have:=H.list ah;simpa using this
 have Y:Bag sm (Bu (.slice E b.length F,txV b)::oT zN []::([]:List (Value×zV)).map Bu):=⟨PH.mt,by rw[D6,J7];exact a4,PH.mt,Af.nil _ _ _,trivial⟩;have a9:=hX.mono ((l1.trans l2).trans l3);refine G.l (ι:=Nat×(zP×Nat)×List (Value×zV)) (fun i=>[(2,.p 1 0),(3,.p 1001 0),(17,sV xa X.length xc),(18,iV X.length),(19,iV i.1)])
  (fun i=>[(1,⟨48,[sN,sN,sN,tV [],tV [],tV []]⟩),(1001,⟨48,[sV R P.length qc,sV i.2.1.1 i.1 i.2.1.2,sV E b.length F,tV t1,tV t2,tV t3]⟩)])
  (fun i u' m'=>i.1<=X.length/\i.2.2.map (·.2)=(X.take i.1).map txV/\Bag m' (Bu (.slice E b.length F,txV b)::oT (.slice i.2.1.1 i.1 i.2.1.2) i.2.2::i.2.2.map Bu)) (fun i=>X.length-i.1) (0,(none,0),[]) ⟨oV,rfl,Y⟩ ?_
 clear Y a4 L j H;rintro J ⟨i,⟨T,U⟩,e⟩ hJ u4 m4 l4 ⟨hi,h,m⟩;simp only at hi h m hJ;have a1:e.length=i:=by have:=congrArg List.length h;simp at this;omega
 by_cases Z:i<X.length
 ·refine G.lT i X.length ?_;obtain⟨r,Q⟩:∃ r,X[i]?=some r:=⟨_,A01 Z⟩;have a2:=A1k Q;have al:X.take (i+1)=X.take i++[r]:=by rw[A1n,Q];rfl
  obtain⟨bx,ox,a5,c5,rfl,e5,s5⟩:=(a9.mono l4).row (Dw Q);rw[A03]at e5;refine G.N X.length xc Z e5 ?_;rw[A03]at s5;refine G.callO _ _ kV call156 (Al5 s5 (by simpa using ai r a2) (by rw[A03];have:=aj r a2;omega)) ?_;intro v6 u6 m6 l6 V ag;have K:=V.join ag;obtain⟨t,C,rfl⟩:=V.shape;rw[Cb,A03]at K⊢;have ac:Bag (m4.or m6) (Bu (.slice t r.length C,txV r)::Bu (.slice E b.length F,txV b)::oT (.slice T i U) e::e.map Bu):=⟨m4,by rw[D6,J7];exact K,m⟩;refine G.B 46 1 24 zN [.slice t r.length C] (B5 _ _ _) ?_;intro g7 u7 l7 e7;obtain⟨mo,a3,a0⟩:=ac.focus 2 rfl;rw[Aaa]at a3;refine G.k 46 1 24 zN mo (e.map (·.1)) [.slice t r.length C] (.slice T i U) g7 0 1 1 a3 e7 (B5 _ _ _) ?_;intro v8 m8 I;have em:e.map (·.1)++[Value.slice t r.length C]=(e++[(Value.slice t r.length C,txV r)]).map (·.1):=mV;rw[em]at I;obtain⟨a8,c8,rfl⟩:=I.shape;have el:((e++[(Value.slice t r.length C,txV r)]).map (·.1)).length=i+1:=by simp[a1]
  rw[el]at I⊢;have ad:=a0 (oT (.slice a8 (i+1) c8) (e++[(Value.slice t r.length C,txV r)])) m8 I;have ae:=Bag.perm S8 ad;have W:Bag m8 (Bu (.slice E b.length F,txV b)::oT (.slice a8 (i+1) c8) (e++[(Value.slice t r.length C,txV r)])::(e++[(Value.slice t r.length C,txV r)]).map Bu):=by simpa using ae
  refine G.i i<|G.b (hJ (i+1,(a8,c8),e++[(Value.slice t r.length C,txV r)]) _ _ _ cV ((l4.trans l6).trans l7) ⟨dV,?_,W⟩ dV);dsimp only;rw[A1i,h,al];simp
 obtain rfl:i=X.length:=oV;refine G.lF X.length X.length ?_;rw[A15]at h;exact G.r (.agg #[.slice R P.length qc,.slice T X.length U,.slice E b.length F,zS t1,zS t2,zS t3]) ⟨R,qc,T,U,E,F,e,rfl,a7.mono l4,h,m⟩
end
end
section
def Q7 {u:PH}{y:Value}{q r:Rat}{g k:Nat}(H:Hx u)(e:Tx q)(j:Bg u y r)(E:Sz r k)(J:k<=1000000000)(h:Tx (q+r)) :
 zF 132 [zS (Ae q),y,.pointer (zA g)] u fun v _=>v=zS (Ae (q+r)):=by
 obtain⟨I,rfl⟩:=j.opF;refine Fn0.o func132<|G.c call133 (Gs e) ?_;intro V L C m;obtain⟨f1,rfl⟩:=m.opF;refine G.c call129 (Lq m (j.mono C) (e.sz.mono oV) (E.mono oV)) ?_;intro W Q l2 t;obtain⟨f2,rfl⟩:=t.opF;refine G.c call71 (Uf (H.mono (C.trans l2)) t h) ?_;rintro Y U K rfl;exact G.nF 0 0<|G.z (zS (Ae (q+r)))
def Azi {u:PH}{T:zC}{R:List Br}{F:List Al}{l:Nat}{ss:zW}(ok:Bl u T R F (l:Int))(C:Bw T ss)(t:G4 F (l:Int) ss=true):ss.getD l []≠[]/\ss.getD l []=Ae ((cfT F (l:Int) ss).s B7)/\SmW ((cfT F (l:Int) ss).s B7):=by
 obtain⟨n,I⟩:=ok.l2 l rfl;have W:=(A05.1 I).1;have H:=C.len;have V:l<ss.length:=oV;have E:ss[l]?=some ss[l]:=A01 V;have e:ss.getD l []=ss[l]:=by simp[A02,E]
 have j:ss.getD l []≠[]:=fun h=>by
  unfold G4 at t;rw[A23,h]at t;simp at t
 have m:=Hg (F:=F) (lab:=(l:Int)) E;have U:Gm F (l:Int) l ss[l]=some (some (B7,Lk ss[l])):=by
  unfold Gm;rw[if_pos rfl];unfold Sy;rw[if_neg (by rw[<-e];exact j)];rfl
 rw[U]at m;have J:=Tv ok.feat C ok.l1 (fun l' e=>by have:=Int.ofNat.inj e;omega) t m;have Y:=C.val l _ _ I E;have K:=Hz Y (by rw[<-e];exact j);obtain⟨L,Q⟩:=K;refine⟨j,?_,?_⟩
 ·rw[J,e];exact Q.symm
 rw[J];exact L
structure Av5 (F:List Al)(l:Nat)(P:List Par)(ss:zW):Prop where
 cnt:G4 F (l:Int) ss=true
 has:∀ x∈Dx F ss F.length,x.1∈P
section
variable {u:PH} {tv:Value} {T:zC} {R:List Br} {F:List Al} {l:Nat} {ss:zW} {P:List Par} {X:zM} {b:zR} {s c q:Rat} {w:Int}
variable {pa xa ra a1 a2 a3:zP} {pc xc rc c1 c2 c3:Nat}
def Aog (ht:Hx u)(h:Mv u (.agg #[.slice a1 T.length c1,.slice a2 R.length c2,.slice a3 F.length c3,zI l]) tv T R F (l:Int) ss)(Z:Av5 F l P ss)
 (hP:Ac u (.slice pa P.length pc) 2 (P.map Ap)) (hX:C7 u (.slice xa (P.length+1) xc) (Cv X)) (hR:Cj u (.slice ra (P.length+1) rc) (b.map Ae)) (hp:Td F P q) (m:Ah3 P X b s c) (I:∃ L,Y5 X L 86) (h5:P.length<=5) (ab:w≠0) (ac:-1000000000000<=w) (ad:w<=1000000000000) :
 zF 68 [stV pa P.length pc xa xc ra rc s c q a1 T.length c1 a2 R.length c2 a3 F.length c3 (l:Int),tv,zI w] u fun r e=>∃ xv,r=.tuple #[xv,zT,zO]/\F6 e xv (Ko P (cfT F (l:Int) ss).s):=by
 have a6:=Lm h;have a0:=fun (e:PH) (H:PH.le u e)=>Yv (h.mono H);have a5:=fun (e:PH) (H:PH.le u e)=>Anh (h.mono H) (hP.mono H) hp.srt Z.has oV;have Q:=h.lt;have C:=h.fit;have t:=h.ok;have a4:=Avy (P:=P) t.feat C t.l1 Q Z.cnt hp.par;have aa:=Abm (P:=P) t.feat C t.l1 Q Z.cnt hp.par;have E:=m.sq;have j:∀ r∈X,r.length=P.length+1:=fun r hr=>by rw[E.row r hr,m.n]
 obtain⟨L,I⟩:=I;have a9:∀ e,PH.le u e->zF 100 [stV pa P.length pc xa xc ra rc s c q a1 T.length c1 a2 R.length c2 a3 F.length c3 (l:Int)] e fun r _=>r=zT:=fun e hl=>Xy (hX.mono hl) m.n j oV;have a8:∀ e,PH.le u e->zF 101 [stV pa P.length pc xa xc ra rc s c q a1 T.length c1 a2 R.length c2 a3 F.length c3 (l:Int)] e fun r _=>r=zT:=fun e hl=>Uw (hX.mono hl) (Ac.mono hR hl) m.n j m.bn E.tx m.bt m.st m.ct hp.pen.tx oV;refine Fn0.o func68<|G.c call89 a6 ?_;rintro v1 u1 H rfl;refine G.nF 0 0<|G.eF' w 0 ab<|G.lF w (-1000000000000)<|G.gF w 1000000000000<|G.c call90 (a0 u1 H) ?_;rintro v2 u2 l2 rfl;rw[Z.cnt];refine G.lF l 0 ?_;have U:=H.trans l2;refine G.c call140 (a5 u2 U) ?_;rintro v3 u3 l3 ⟨lv,rfl,hS⟩;have V:=U.trans l3;have J:Cj u3 lv ((Ko P (cfT F (l:Int) ss).s).map Ae):=by rw[<-a4];exact hS
 obtain⟨la,lc,rfl⟩:=Ac.opn J;refine G.nF 0 0<|G.c call100 (a9 u3 V) ?_;rintro v4 u4 l4 rfl;have W:=V.trans l4;refine G.c call101 (a8 u4 W) ?_;rintro v5 u5 l5 rfl;have Y:=W.trans l5;refine G.gF (P.length+1:Nat) 12<|G.c call119 (Aie (N:=6) (K:=86) (ht.mono Y) (hX.mono Y) E.tx (by have:=m.n;omega) (fun r hr=>by rw[j r hr];omega) oV oV oV I.den I.pos I.nl I.dig) ?_;rintro v6 u6 l6 rfl;refine G.c call141 (T0 (Ac.mono J ((l4.trans l5).trans l6)) (fun x hx=>(aa x hx).tx) (by rw[Ad6];omega)) ?_;intro v7 u7 l7 k7;obtain⟨a7,c7,rfl⟩:=k7.lp.opn;exact G.r (.tuple #[.slice a7 (Ko P (cfT F (l:Int) ss).s).length c7,zT,zO]) ⟨rfl,_,rfl,k7⟩
def Ail {n:Nat}(h:Mv u (.agg #[.slice a1 T.length c1,.slice a2 R.length c2,.slice a3 F.length c3,zI l]) tv T R F (l:Int) ss)(C:G4 F (l:Int) ss=false)(m:w≠0)(E:-1000000000000<=w)(H:w<=1000000000000) :
 zF 68 [stV pa n pc xa xc ra rc s c q a1 T.length c1 a2 R.length c2 a3 F.length c3 (l:Int),tv,zI w] u fun r _=>r=.tuple #[zN,zL,zO]:=by
 have j:=Lm h;have e:=fun (I:PH) (t:PH.le u I)=>Yv (h.mono t);refine Fn0.o func68<|G.c call89 j ?_;rintro L J t rfl;refine G.nF 0 0<|G.eF' w 0 m<|G.lF w (-1000000000000)<|G.gF w 1000000000000<|G.c call90 (e J t) ?_;rintro Q K l2 rfl;rw[C];exact G.z (.tuple #[zN,zL,zO])
end
end
section
variable {i n:Nat}{x:Par->Rat}
def Atn {m:PH}{b:Nat}(o:Obj)(h:m b=none):m.upd b o=(Pj b o).or m/\Hp (Pj b o) m:=by
 constructor
 ·funext k
  by_cases e:k=b
  ·subst e;rw[Ab,PH.or_l (Ck k o)]
  rw[Ad _ _ e,PH.or_r (Mz o e)]
 intro k;by_cases e:k=b
 ·subst e;exact .inr h
 exact .inl (Mz o e)
def Ayd {Z:zM}{i k:Nat}{y:Rat}(h:Rec n n Z)(hi:i<n)(j:k<n)(a b:Nat):en (Z.set i ((gM Z i).set k y)) a b=if i=a then (if k=b then y else en Z i b) else en Z a b:=by
 unfold en;rw[Kb (by rw[h.1];exact hi)];by_cases e:i=a
 ·rw[if_pos e,if_pos e,Aht (by rw[h.2 i hi];exact j)]
 rw[if_neg e,if_neg e]
def F6.cellG {u:PH}{a:zP}{n c:Nat}{t:zR}(h:F6 u (.slice a n c) t){j:Nat}(E:j<t.length):∃ b off f,a=some ⟨b,off,none⟩/\ElP u b (off+j*4) (fv f)/\Bg u (fv f) (gR t j):=by
 obtain⟨b,off,e,rfl,H,m⟩:=LP.at h (A01 E);rw[<-Cu E]at m;obtain⟨f,rfl⟩:=m.opF;exact⟨b,off,f,rfl,H,m⟩
section
variable {u:PH} {tv:Value} {T:zC} {R:List Br} {F:List Al} {l:Nat} {ss:zW} {P:List Par} {X:zM} {b:zR} {s c q:Rat} {w:Int} {C:CF}
variable {pa xa ra a1 a2 a3:zP} {pc xc rc c1 c2 c3:Nat}
def Ae6 (hi:i<P.length+1):gR (Io (P.length+1) X (Ko P x) false) i=Fy (P.length+1) (en X) (Fg P x) i:=by
 rw[Xv hi];exact Ah fun k e=>by rw[V1 e];rfl
def Apg (hi:i<P.length+1):gR (Io (P.length+1) X (Ko P x) true) i=Fy (P.length+1) (fun i k=>en X k i) (Fg P x) i:=by
 rw[Xv hi];exact Ah fun k e=>by rw[V1 e];rfl
def Axi {w:Rat}:1+w*Vq (P.length+1) (gR (Ko P x)) (gR (Io (P.length+1) X (Ko P x) false))=byN (P.length+1) (en X) (Fg P x) w:=by
 unfold byN Vq
 congr 2
 exact Ah fun k e=>by rw[V1 e,Ae6 e]
theorem Amb (ht:Hx u)(h:Mv u (.agg #[.slice a1 T.length c1,.slice a2 R.length c2,.slice a3 F.length c3,.int .i64 (l:Int)]) tv T R F (l:Int) ss)(hc:Av5 F l P ss)
 (hP:Ac u (.slice pa P.length pc) 2 (P.map Ap)) (hX:C7 u (.slice xa (P.length+1) xc) (Cv X)) (hR:Cj u (.slice ra (P.length+1) rc) (b.map Ae)) (hp:Td F P q) (hne:P≠[]) (hB:Ah3 P X b s c) (hL:∃ L,Y5 X L 86) (h5:P.length<=5) (hw0:w≠0) (hw1:-1000000000000<=w) (hw2:w<=1000000000000)
 (hby:byN (P.length+1) (en X) (Fg P (cfT F (l:Int) ss).s) (w:Rat)≠0) (hB':Ah3 P (Nj (P.length+1) X (Fg P (cfT F (l:Int) ss).s) (w:Rat)) (Pq P b (cfT F (l:Int) ss).s (w:Rat) ((cfT F (l:Int) ss).s B7)) (s+(w:Rat)*(cfT F (l:Int) ss).s B7*(cfT F (l:Int) ss).s B7) (c+(w:Rat))) :
 Fn0 prog 57 [stV pa P.length pc xa xc ra rc s c q a1 T.length c1 a2 R.length c2 a3 F.length c3 (l:Int),tv,.int .i64 w] u fun r u'=>∃ sv,r=.tuple #[sv,.int .i64 0] /\
  Ma u' sv P (Nj (P.length+1) X (Fg P (cfT F (l:Int) ss).s) (w:Rat)) (Pq P b (cfT F (l:Int) ss).s (w:Rat) ((cfT F (l:Int) ss).s B7)) (s+(w:Rat)*(cfT F (l:Int) ss).s B7*(cfT F (l:Int) ss).s B7) (c+(w:Rat)) q:=by
 have hbg:=Aog (w:=w) ht h hc hP hX hR hp hB hL h5 hw0 hw1 hw2;have hlb:=fun (u':PH) (l1:PH.le u u')=>Amh (h.mono l1);obtain⟨hln,hltx,hls⟩:=Azi h.ok h.fit hc.cnt;have hsm:=Abm (P:=P) h.ok.feat h.fit h.ok.l1 h.lt hc.cnt hp.par;have hsx:SzL (Ko P (cfT F (l:Int) ss).s) 1:=fun x hx=>(hsm x hx).sz;generalize (cfT F (l:Int) ss).s=x at *
 have hsq:=hB.sq;have hXr:Rec (P.length+1) (P.length+1) X:=⟨hB.n,fun i hi=>by have:=hB.n;rw[Ch oV];rw[hsq.row _ (A09 oV),hB.n]⟩;have hYr:Rec (P.length+1) (P.length+1) (Nj (P.length+1) X (Fg P x) (w:Rat)):=Rh _ _;have hXt:∀ i k,i<P.length+1->k<P.length+1->Tx (en X i k):=fun i k hi hk=>by
  have h1:i<X.length:=by rw[hXr.1];exact hi
  have h2:=hXr.2 i hi;rw[Ch h1]at h2;have h3:k<X[i].length:=oV
  unfold en;rw[Ch h1,Cu h3];exact hsq.tx _ (A09 h1) _ (A09 h3)
 have hYt:∀ i k,i<P.length+1->k<P.length+1->Tx (Vd (P.length+1) (en X) (Fg P x) (w:Rat) i k):=fun i k hi hk=>by
  rw[<-N6 (f:=Vd (P.length+1) (en X) (Fg P x) (w:Rat)) hi hk];have h1:i<(Nj (P.length+1) X (Fg P x) (w:Rat)).length:=by rw[hYr.1];exact hi
  have h2:=hYr.2 i hi;rw[Ch h1]at h2;have h3:k<(Nj (P.length+1) X (Fg P x) (w:Rat))[i].length:=oV
  show Tx (gR (gM (Nj (P.length+1) X (Fg P x) (w:Rat)) i) k);rw[Ch h1,Cu h3];exact hB'.sq.tx _ (A09 h1) _ (A09 h3)
 have hswz:Sz (w:Rat) 2:=⟨A4 gV,A4 mV⟩;have hXl:=hB.n;have hbl:=hB.bn;have hcop:=fun (u':PH) (l1:PH.le u u')=>Yg (t1:=Ae s) (t2:=Ae c) (t3:=Ae q) (hP.mono l1) (show C7 u' (.slice xa X.length xc) (Cv X) by rw[hXl];exact hX.mono l1) (show Cj u' (.slice ra b.length rc) (b.map Ae) by rw[hbl];exact Ac.mono hR l1) hne (by intro e;rw[e]at hbl;simp at hbl) (fun r hr e=>by have:=hsq.row r hr;rw[e]at this;simp at this;omega) oV oV (fun r hr=>by rw[hsq.row r hr];omega) oV;refine Fn0.o func57 ?_;refine G.c call68 hbg ?_;rintro v1 u1 l1 ⟨xv,rfl,kx⟩;obtain⟨ax,cx,rfl⟩:=kx.lp.opn;have hxl:=Ad6 P x;rw[hxl]at kx⊢;refine G.nF 0 0 ?_;refine G.c call128 (Wa (z:=w) oV oV) ?_;intro v2 u2 l2 kw;obtain⟨fw,rfl⟩:=kw.opF;have le2:=l1.trans l2;refine G.c call70 (Aeu (n:=P.length+1) (S:=1) false (hX.mono le2) hXr hsq.tx (kx.mono l2) hxl oV hsx oV) ?_;rintro v3 u3 l3 ⟨kr,sr⟩;obtain⟨ar,cr,rfl⟩:=kr.lp.opn;rw[F1]at kr⊢;have le3:=le2.trans l3;refine G.c call70 (Aeu (n:=P.length+1) (S:=1) true (hX.mono le3) hXr hsq.tx (kx.mono (l2.trans l3)) hxl oV hsx oV) ?_;rintro v4 u4 l4 ⟨kc,sc⟩;obtain⟨ac,cc,rfl⟩:=kc.lp.opn;rw[F1]at kc⊢;have le4:=le3.trans l4;refine G.c call128 (Wa (z:=1) oV oV) ?_;intro v5 u5 l5 k1;rw[show ((1:Int):Rat)=1 from rfl]at k1;obtain⟨f1,rfl⟩:=k1.opF;refine G.c call69 (As6 (n:=P.length+1) (S:=1) (S':=1+(P.length+1)*(400+1+1)) (kx.mono (((l2.trans l3).trans l4).trans l5)) (kr.mono (l4.trans l5)) hxl (F1 _ _ _ _) oV hsx sr (by
  have h6:(P.length+1)*(400+1+1)<=6*(400+1+1):=A13 _ oV;have h7:(P.length+1)*(1+(1+(P.length+1)*(400+1+1))+1)<=6*(1+(1+6*(400+1+1))+1):=A25 oV oV;omega)) ?_
 rintro v6 u6 l6 ⟨kd,sd⟩;have h6:(P.length+1)*(400+1+1)<=6*(400+1+1):=A13 _ oV;have h7:(P.length+1)*(1+(1+(P.length+1)*(400+1+1))+1)<=6*(1+(1+6*(400+1+1))+1):=A25 oV oV;replace sr:SzL _ 2413:=sr.mono oV;replace sc:SzL _ 2413:=sc.mono oV;replace sd:Sz _ 14500:=sd.mono oV;obtain⟨fd,rfl⟩:=kd.opF;have swd:=Fx hswz sd;refine G.c call130 (Ga (kw.mono (((l3.trans l4).trans l5).trans l6)) kd (hswz.mono oV) (sd.mono oV)) ?_;intro v7 u7 l7 k7;obtain⟨f7,rfl⟩:=k7.opF;have s11:Sz (1:Rat) 1:=Adt (z:=1) fV;refine G.c call129 (Lq (k1.mono (l6.trans l7)) k7 (s11.mono oV) (swd.mono oV)) ?_;intro v8 u8 l8 k8;have sby:=R5 s11 swd;rw[Axi]at k8 sby;obtain⟨f8,rfl⟩:=k8.opF;refine G.c call131 (Anr k8 sby oV) ?_;rintro v9 u9 l9 rfl;refine G.eF' (sg (byN (P.length+1) (en X) (Fg P x) (w:Rat))) 0 (fun e=>hby (Aip.1 e)) ?_;have l59:=(((l5.trans l6).trans l7).trans l8).trans l9;have le9:=le4.trans l59;have hc9:=hcop u9 le9;rw[hXl,hbl]at hc9;refine G.callO _ _ kV call86 hc9 ?_;rintro v10 u10 m10 l10 ⟨qa,qc,ya,yc,sa,scc,rows0,rfl,hP10,hrows0,hbag0⟩ _;rw[By];have hrl0:rows0.length=P.length+1:=by have:=congrArg List.length hrows0;simpa[hXl] using this
 obtain⟨go,co,eo⟩:=hbag0.ptr 1 rfl (fun e=>by
  have:(rows0.map (·.1)).length=0:=by rw[show rows0.map (·.1) = [] from e];rfl
  rw[A03]at this;omega)
 have eo2:(Value.slice ya (P.length+1) yc)=.slice (some ⟨go,0,none⟩) (P.length+1) co:=by
  have e1:(oT (.slice ya (P.length+1) yc) rows0).v=Value.slice ya (P.length+1) yc:=rfl;rw[e1]at eo;rw[eo];have:(oT (.slice ya (P.length+1) yc) rows0).es.length=P.length+1:=by show (rows0.map (·.1)).length=_;rw[A03,hrl0]
  rw[this]
 cases eo2;obtain⟨gs,cs,es0⟩:=hbag0.ptr 0 rfl (fun e=>by
  have:(txV b).length=0:=by rw[show txV b = [] from e];rfl
  rw[Bgm]at this;omega)
 have es2:(Value.slice sa (P.length+1) scc)=.slice (some ⟨gs,0,none⟩) (P.length+1) cs:=by
  have e1:(Bu (.slice sa (P.length+1) scc,txV b)).v=Value.slice sa (P.length+1) scc:=rfl;rw[e1]at es0;rw[es0];have:(Bu (.slice sa (P.length+1) scc,txV b)).es.length=P.length+1:=by show (txV b).length=_;rw[Bgm,hbl]
  rw[this]
 cases es2;refine G.pastI ?_;refine G.pub 12000 39 [.int .i64 0] kV kV ?_;intro gf hgf1 hgf2;obtain⟨ep1,ep2⟩:=Atn (.cells [Value.int .i64 0].toArray 39 (0,0)) hgf2;rw[ep1];refine G.giveP (ma:=Pj gf (.cells [Value.int .i64 0].toArray 39 (0,0))) (sm:=m10) kV rfl ep2 (fun g=>.inl rfl) ?_;intro u11 l11 hm11;have hgf:u11 gf=some (.cells #[.int .i64 0] 39 (0,0)):=hm11 _ _ (Ck _ _);have l211:=(((l3.trans l4).trans l59).trans l10).trans l11;refine G.c call134 (Aqz (kw.mono l211) (k8.mono ((l9.trans l10).trans l11)) (hswz.mono oV) (sby.mono oV) hby) ?_;intro v12 u12 l12 k12;obtain⟨f12,rfl⟩:=k12.opF;have sdv:=Arz hswz sby hby;refine G.c call135 (Asr k12 (A04 sdv.1 oV)) ?_;intro v13 u13 l13 k13;obtain⟨f13,rfl⟩:=k13.opF;have sng:=Asu sdv;have l1113:=l12.trans l13;have kr13:=kr.mono (((((l4.trans l59).trans l10).trans l11).trans l12).trans l13);have kc13:=kc.mono ((((l59.trans l10).trans l11).trans l12).trans l13);have kx13:=kx.mono ((l2.trans l211).trans l1113);have kw13:=kw.mono (l211.trans l1113);have le13:=(((le9.trans l10).trans l11).trans l12).trans l13;have hP13:=hP10.mono ((l11.trans l12).trans l13);have hgf13:=l1113 _ _ hgf;have ht13:=ht.mono le13;generalize hY:Nj (P.length+1) X (Fg P x) (w:Rat)=Y at *
 have hYe:∀ i k,i<P.length+1->k<P.length+1->en Y i k=en X i k + -((w:Rat)/byN (P.length+1) (en X) (Fg P x) (w:Rat))*gR (Io (P.length+1) X (Ko P x) false) i*gR (Io (P.length+1) X (Ko P x) true) k:=fun i k hi hk=>by
  rw[<-hY,show en (Nj (P.length+1) X (Fg P x) (w:Rat)) i k=Vd (P.length+1) (en X) (Fg P x) (w:Rat) i k from N6 hi hk,Ae6 hi,Apg hk];rfl
 have hYt2:∀ i k,i<P.length+1->k<P.length+1->Tx (en Y i k):=fun i k hi hk=>by
  rw[<-hY,show en (Nj (P.length+1) X (Fg P x) (w:Rat)) i k=Vd (P.length+1) (en X) (Fg P x) (w:Rat) i k from N6 hi hk];exact hYt i k hi hk
 generalize hrs:Io (P.length+1) X (Ko P x) false=rs at *
 generalize hcs:Io (P.length+1) X (Ko P x) true=cls at *
 have hrsl:rs.length=P.length+1:=by rw[<-hrs];exact F1 _ _ _ _
 have hcsl:cls.length=P.length+1:=by rw[<-hcs];exact F1 _ _ _ _
 generalize hdv:-((w:Rat)/byN (P.length+1) (en X) (Fg P x) (w:Rat))=dv at *
 clear hrs hcs k8 k12 kd k7 k1 hcop hc9 hbg;refine G.l (ι:=Nat×List (List Rat)×List (Value×List Value)) (fun i=>[(1,.v tv),(3,.p 0 0),(6,.p 1 0),(8,sV ax (P.length+1) cx),(11,.p 6002 0),(12,sV ar (P.length+1) cr),(13,sV ac (P.length+1) cc),(15,.p 11003 0),(16,.v (.pointer (some ⟨gf,0,none⟩))),(17,.v (.func (.func 132) #[] #[.pointer (some ⟨gf,0,none⟩)])),(18,.p 14004 0),(75,sV (some ⟨go,0,none⟩) (P.length+1) yc),(76,iV (P.length+1:Nat)),(77,iV i.1)])
  (fun _=>[(0,⟨122,[sV pa P.length pc,sV xa (P.length+1) xc,sV ra (P.length+1) rc,tV (Ae s),tV (Ae c),tV (Ae q),sV a1 T.length c1,sV a2 R.length c2,sV a3 F.length c3,iV l]⟩),
   (1,⟨48,[.v (.slice none 0 0),.v (.slice none 0 0),.v (.slice none 0 0),.v (.string (mkS [])),.v (.string (mkS [])),.v (.string (mkS []))]⟩),(6002,⟨143,fc fw⟩),
   (11003,⟨48,[.v (.slice qa P.length qc),.v (.slice (some ⟨go,0,none⟩) (P.length+1) yc),.v (.slice (some ⟨gs,0,none⟩) (P.length+1) scc),.v (.string (mkS (Ae s))),.v (.string (mkS (Ae c))),.v (.string (mkS (Ae q)))]⟩),(14004,⟨143,fc f13⟩)])
  (fun i u' m'=>i.1<=P.length+1/\Rec (P.length+1) (P.length+1) i.2.1/\(∀ a e,a<P.length+1->e<P.length+1->en i.2.1 a e=if a<i.1 then en Y a e else en X a e)/\i.2.2.map (·.2)=i.2.1.map txV/\Bag m' (Bu (.slice (some ⟨gs,0,none⟩) (P.length+1) scc,txV b)::oT (.slice (some ⟨go,0,none⟩) (P.length+1) yc) i.2.2::i.2.2.map Bu)) (fun i=>P.length+1-i.1)
  (0,X,rows0) ⟨oV,hXr,fun a e _ _=>by rw[if_neg (Nat.not_lt_zero _)],hrows0,hbag0⟩ ?_
 clear hbag0 hrows0 hrl0;rintro J ⟨i,Z,rows⟩ hJ u14 m14 l14 ⟨hi,hZr,hZ,hrows,hbag⟩;simp only at hi hZr hZ hrows hbag hJ;by_cases hlt:i<P.length+1
 ·refine G.lT (i:Int) ((P.length+1:Nat):Int) ?_;obtain⟨gi,ci,hri,e1,_⟩:=Ayw hbag hrows hZr hlt;refine G.a go 0 (P.length+1) yc i 1 hlt ?_;refine G.lM none go (0+i*1) (.slice (some ⟨gi,0,none⟩) (P.length+1) ci) e1 ?_;refine G.l (ι:=Nat×List (List Rat)×List (Value×List Value)) (fun k=>[(1,.v tv),(3,.p 0 0),(6,.p 1 0),(8,sV ax (P.length+1) cx),(11,.p 6002 0),(12,sV ar (P.length+1) cr),(13,sV ac (P.length+1) cc),(15,.p 11003 0),(16,.v (.pointer (some ⟨gf,0,none⟩))),(17,.v (.func (.func 132) #[] #[.pointer (some ⟨gf,0,none⟩)])),(18,.p 14004 0),(19,iV i),(20,sV (some ⟨gi,0,none⟩) (P.length+1) ci),(75,sV (some ⟨go,0,none⟩) (P.length+1) yc),(76,iV (P.length+1:Nat)),(77,iV i),(83,iV (P.length+1:Nat)),(84,iV k.1)])
   (fun _=>[(0,⟨122,[sV pa P.length pc,sV xa (P.length+1) xc,sV ra (P.length+1) rc,tV (Ae s),tV (Ae c),tV (Ae q),sV a1 T.length c1,sV a2 R.length c2,sV a3 F.length c3,iV l]⟩),
    (1,⟨48,[.v (.slice none 0 0),.v (.slice none 0 0),.v (.slice none 0 0),.v (.string (mkS [])),.v (.string (mkS [])),.v (.string (mkS []))]⟩),(6002,⟨143,fc fw⟩),
    (11003,⟨48,[.v (.slice qa P.length qc),.v (.slice (some ⟨go,0,none⟩) (P.length+1) yc),.v (.slice (some ⟨gs,0,none⟩) (P.length+1) scc),.v (.string (mkS (Ae s))),.v (.string (mkS (Ae c))),.v (.string (mkS (Ae q)))]⟩),(14004,⟨143,fc f13⟩)])
   (fun k u' m'=>k.1<=P.length+1/\k.2.2[i]?=some (.slice (some ⟨gi,0,none⟩) (P.length+1) ci,txV (gM k.2.1 i))/\Rec (P.length+1) (P.length+1) k.2.1/\(∀ a e,a<P.length+1->e<P.length+1->en k.2.1 a e=if a<i\/a=i/\e<k.1 then en Y a e else en X a e)/\k.2.2.map (·.2)=k.2.1.map txV/\Bag m' (Bu (.slice (some ⟨gs,0,none⟩) (P.length+1) scc,txV b)::oT (.slice (some ⟨go,0,none⟩) (P.length+1) yc) k.2.2::k.2.2.map Bu)) (fun k=>P.length+1-k.1)
   (0,Z,rows) ⟨oV,hri,hZr,fun a e ha he=>by
    dsimp only;rw[hZ a e ha he];by_cases h1:a<i
    ·rw[if_pos h1,if_pos oV]
    ·rw[if_neg h1,if_neg oV],hrows,hbag⟩ ?_
  clear hri e1 hZr hZ hrows hbag;rintro J2 ⟨k,Z,rows⟩ hJ2 u15 m15 l15 ⟨hk,hri,hZr,hZ,hrows,hbag⟩;simp only at hk hri hZr hZ hrows hbag hJ2;have le15:=l14.trans l15;by_cases hlk:k<P.length+1
  ·refine G.lT (k:Int) ((P.length+1:Nat):Int) ?_;have hold:gR (gM Z i) k=en X i k:=by
    have h1:gR (gM Z i) k=en Z i k:=rfl;rw[h1,hZ i k hlt hlk,if_neg oV]
   have hei:ElP m15 gi (0+k*1) (.string (mkS (Ae (en X i k)))):=hbag.el (i+2) (Lw hri) rfl (by
    show (txV (gM Z i))[k]?=_;have hkl:k<(gM Z i).length:=by rw[hZr.2 i hlt];exact hlk
    unfold txV;rw[A1a,A01 hkl,<-Cu hkl,hold];rfl)
   have hir:i<rs.length:=oV
   have hkc:k<cls.length:=oV
   obtain⟨b1,o1,g1,rfl,e3,k3⟩:=(kr13.mono le15).cellG hir;obtain⟨b2,o2,g2,rfl,e4,k4⟩:=(kc13.mono le15).cellG hkc;have hs1:=sr.at hir;have hs2:=sc.at hkc;refine G.a gi 0 (P.length+1) ci k 1 hlk ?_;refine G.lM none gi (0+k*1) (.string (mkS (Ae (en X i k)))) hei ?_;refine G.a b1 o1 (P.length+1) cr i 4 hlt ?_;refine G.lU (some 4) b1 (o1+i*4) (fv g1) e3 ?_;refine G.a b2 o2 (P.length+1) cc k 4 hlk ?_;refine G.lU (some 4) b2 (o2+k*4) (fv g2) e4 ?_;refine G.c call130 (Ga (k13.mono le15) k3 (sng.mono oV) (hs1.mono oV)) ?_;intro v16 u16 l16 k16;obtain⟨f16,rfl⟩:=k16.opF;have sm1:=Fx sng hs1;refine G.c call130 (Ga k16 (k4.mono l16) (sm1.mono oV) (hs2.mono oV)) ?_;intro v17 u17 l17 k17;obtain⟨f17,rfl⟩:=k17.opF;have sm2:=Fx sm1 hs2;refine G.c call132 (Q7 (g:=gf) (q:=en X i k) (ht13.mono ((le15.trans l16).trans l17)) (hXt i k hlt hlk) k17 sm2 oV (by rw[<-hYe i k hlt hlk];exact hYt2 i k hlt hlk)) ?_;rintro v18 u18 l18 rfl;rw[<-hYe i k hlt hlk];obtain⟨m0,hx0,hput⟩:=hbag.focus (i+2) (Lw hri);rw[D6]at hx0;refine G.a gi 0 (P.length+1) ci k 1 hlk ?_;refine G.storeA 1 m0 (txV (gM Z i)) gi (P.length+1) ci k (.string (mkS (Ae (en Y i k)))) kV hx0 (by rw[Bgm,hZr.2 i hlt];exact hlk) rfl rfl ?_;intro m19 hA19;have es:(txV (gM Z i)).set k (.string (mkS (Ae (en Y i k))))=txV ((gM Z i).set k (en Y i k)):=by unfold txV;rw[A2g]
   rw[es]at hA19;have hb19:=hput (Bu (.slice (some ⟨gi,0,none⟩) (P.length+1) ci,txV ((gM Z i).set k (en Y i k)))) m19 hA19;rw[Agw,<-Aho hri (es':=txV ((gM Z i).set k (en Y i k)))]at hb19;refine G.i k ?_;have hil:i<rows.length:=(A05.1 hri).1;have hZ':=I8 hZr hlt (r:=(gM Z i).set k (en Y i k)) (by rw[A21];exact hZr.2 i hlt);refine G.b (hJ2 (k+1,Z.set i ((gM Z i).set k (en Y i k)),rows.set i (.slice (some ⟨gi,0,none⟩) (P.length+1) ci,txV ((gM Z i).set k (en Y i k)))) _ _ _ cV (((l15.trans l16).trans l17).trans l18) ⟨dV,?_,hZ',fun a e ha he=>?_,?_,hb19⟩ dV)
   ·dsimp only;rw[A1z,if_pos rfl,if_pos hil,Kb (by rw[hZr.1];exact hlt),if_pos rfl]
   ·dsimp only;rw[Ayd hZr hlt hlk];by_cases h1:i=a
    ·subst h1;rw[if_pos rfl];by_cases h2:k=e
     ·subst h2;rw[if_pos rfl,if_pos oV]
     ·rw[if_neg h2,hZ i e hlt he];by_cases h3:e<k
      ·rw[if_pos oV,if_pos oV]
      ·rw[if_neg oV,if_neg oV]
    ·rw[if_neg h1,hZ a e ha he];by_cases h3:a<i
     ·rw[if_pos oV,if_pos oV]
     ·rw[if_neg oV,if_neg oV]
   ·dsimp only;rw[A2g,hrows,<-A2g]
  ·obtain rfl:k=P.length+1:=oV
   refine G.lF ((P.length+1:Nat):Int) ((P.length+1:Nat):Int) ?_;refine G.i i ?_;refine G.b (hJ (i+1,Z,rows) _ _ _ cV le15 ⟨dV,hZr,fun a e ha he=>?_,hrows,hbag⟩ dV);dsimp only;rw[hZ a e ha he];by_cases h1:a<i+1
   ·rw[if_pos h1,if_pos oV]
   ·rw[if_neg h1,if_neg oV]
 obtain rfl:i=P.length+1:=oV
 refine G.lF ((P.length+1:Nat):Int) ((P.length+1:Nat):Int) ?_;clear hJ;have hZY:Z=Y:=Aks hZr (by rw[<-hY];exact Rh _ _) fun a e ha he=>by rw[hZ a e ha he,if_pos ha]
 subst hZY;have le14:=le13.trans l14;have hlb14:=hlb u14 le14;rw[if_neg (by
  rintro (h|h);· omega
  ·exact hln h)]at hlb14
 refine G.c call136 hlb14 ?_;rintro v15 u15 l15 rfl;rw[A23,hltx];refine G.c call133 (Gs hls.tx) ?_;intro v16 u16 l16 ky;obtain⟨fy,rfl⟩:=ky.opF;have l1416:=(l14.trans l15).trans l16;have le16:=le13.trans l1416;have kx16:=kx13.mono l1416;have kw16:=kw13.mono l1416;have hP16:=hP13.mono l1416;have ht16:=ht.mono le16;have hgf16:=l1416 _ _ hgf13;have syz:Sz (x B7) 1:=hls.sz;have hbt':=hB'.bt;have hbl':(Pq P b x (w:Rat) (x B7)).length=P.length+1:=hB'.bn;have hst:∀ i,i<P.length+1->gR (Pq P b x (w:Rat) (x B7)) i=gR b i+(w:Rat)*gR (Ko P x) i*x B7:=fun i hi=>by
  unfold Pq;rw[Aep (by rw[A1a,A31 hi];rfl),V1 hi]
 generalize hbe:Pq P b x (w:Rat) (x B7)=b' at *
 have hZr2:Z.length=P.length+1:=hZr.1;clear hZ hZr hYe hYt2 hYt hXt;refine G.l (ι:=Nat×List Rat) (fun i=>[(6,.p 1 0),(8,sV ax (P.length+1) cx),(11,.p 6002 0),(15,.p 11003 0),(16,.v (.pointer (some ⟨gf,0,none⟩))),(17,.v (.func (.func 132) #[] #[.pointer (some ⟨gf,0,none⟩)])),(24,.p 25002 0),(120,iV (P.length+1:Nat)),(121,iV i.1)])
  (fun _=>[(1,⟨48,[sV none 0 0,sV none 0 0,sV none 0 0,tV [],tV [],tV []]⟩),(6002,⟨143,fc fw⟩),
   (11003,⟨48,[.v (.slice qa P.length qc),.v (.slice (some ⟨go,0,none⟩) (P.length+1) yc),.v (.slice (some ⟨gs,0,none⟩) (P.length+1) scc),.v (.string (mkS (Ae s))),.v (.string (mkS (Ae c))),.v (.string (mkS (Ae q)))]⟩),(25002,⟨143,fc fy⟩)])
  (fun i u' m'=>i.1<=P.length+1/\i.2.length=P.length+1/\(∀ a,a<P.length+1->gR i.2 a=if a<i.1 then gR b' a else gR b a)/\Bag m' (Bu (.slice (some ⟨gs,0,none⟩) (P.length+1) scc,txV i.2)::oT (.slice (some ⟨go,0,none⟩) (P.length+1) yc) rows::rows.map Bu)) (fun i=>P.length+1-i.1)
  (0,b) ⟨oV,hbl,fun a _=>by rw[if_neg (Nat.not_lt_zero _)],hbag⟩ ?_
 clear hbag;rintro J ⟨i,z⟩ hJ u17 m17 l17 ⟨hi,hzl,hz,hbag⟩;simp only at hi hzl hz hbag hJ;by_cases hlt:i<P.length+1
 ·refine G.lT (i:Int) ((P.length+1:Nat):Int) ?_;have hix:i<(Ko P x).length:=oV
  have hib:i<b.length:=oV
  have hib':i<b'.length:=oV
  have hiz:i<z.length:=oV
  have hold:z[i]=gR b i:=by rw[<-Cu hiz,hz i hlt,if_neg (Nat.lt_irrefl _)]
  have hei:ElP m17 gs (0+i*1) (.string (mkS (Ae (gR b i)))):=hbag.el 0 rfl rfl (by
   show (txV z)[i]?=_;unfold txV;rw[A1a,A01 hiz,hold];rfl)
  obtain⟨b1,o1,g1,rfl,e3,k3⟩:=(kx16.mono l17).cellG hix;have hs1:=hsx.at hix;refine G.a gs 0 (P.length+1) scc i 1 hlt ?_;refine G.lM none gs (0+i*1) (.string (mkS (Ae (gR b i)))) hei ?_;refine G.a b1 o1 (P.length+1) cx i 4 hlt ?_;refine G.lU (some 4) b1 (o1+i*4) (fv g1) e3 ?_;refine G.c call130 (Ga (kw16.mono l17) k3 (hswz.mono oV) (hs1.mono oV)) ?_;intro v18 u18 l18 k18;obtain⟨f18,rfl⟩:=k18.opF;have sm1:=Fx hswz hs1;refine G.c call130 (Ga k18 (ky.mono (l17.trans l18)) (sm1.mono oV) (syz.mono oV)) ?_;intro v19 u19 l19 k19;obtain⟨f19,rfl⟩:=k19.opF;have sm2:=Fx sm1 syz;have htb:Tx (gR b i):=by rw[Cu hib];exact hB.bt _ (A09 hib)
  have htb':Tx (gR b' i):=by rw[Cu hib'];exact hbt' _ (A09 hib')
  refine G.c call132 (Q7 (g:=gf) (q:=gR b i) (ht16.mono ((l17.trans l18).trans l19)) htb k19 sm2 oV (by rw[<-hst i hlt];exact htb')) ?_;rintro v20 u20 l20 rfl;rw[<-hst i hlt];obtain⟨m0,hx0,hput⟩:=hbag.focus 0 rfl;rw[D6]at hx0;refine G.a gs 0 (P.length+1) scc i 1 hlt ?_;refine G.storeA 1 m0 (txV z) gs (P.length+1) scc i (.string (mkS (Ae (gR b' i)))) kV hx0 (by rw[Bgm,hzl];exact hlt) rfl rfl ?_;intro m21 hA21;have es:(txV z).set i (.string (mkS (Ae (gR b' i))))=txV (z.set i (gR b' i)):=by unfold txV;rw[A2g]
  rw[es]at hA21;have hb21:=hput (Bu (.slice (some ⟨gs,0,none⟩) (P.length+1) scc,txV (z.set i (gR b' i)))) m21 hA21;rw[A2p]at hb21;refine G.i i ?_;refine G.b (hJ (i+1,z.set i (gR b' i)) _ _ _ cV (((l17.trans l18).trans l19).trans l20) ⟨dV,by dsimp only;rw[A21];exact hzl,fun a ha=>?_,hb21⟩ dV);dsimp only;rw[Aht hiz];by_cases h1:i=a
  ·subst h1;rw[if_pos rfl,if_pos oV]
  ·rw[if_neg h1,hz a ha];by_cases h2:a<i
   ·rw[if_pos h2,if_pos oV]
   ·rw[if_neg h2,if_neg oV]
 obtain rfl:i=P.length+1:=oV
 refine G.lF ((P.length+1:Nat):Int) ((P.length+1:Nat):Int) ?_;clear hJ;have hzb:z=b':=A5l oV fun a h1 h2=>by
  have:=hz a oV;rwa[if_pos oV,Cu h1,Cu h2]at this
 subst hzb;refine G.c call130 (Ga (kw16.mono l17) (ky.mono l17) (hswz.mono oV) (syz.mono oV)) ?_;intro v18 u18 l18 k18;obtain⟨f18,rfl⟩:=k18.opF;have sm1:=Fx hswz syz;refine G.c call130 (Ga k18 (ky.mono (l17.trans l18)) (sm1.mono oV) (syz.mono oV)) ?_;intro v19 u19 l19 k19;obtain⟨f19,rfl⟩:=k19.opF;have sm2:=Fx sm1 syz;have l1719:=(l17.trans l18).trans l19;refine G.c call132 (Q7 (g:=gf) (q:=s) (ht16.mono l1719) hB.st k19 sm2 oV hB'.st) ?_;rintro v20 u20 l20 rfl;have l1720:=l1719.trans l20;refine G.c call132 (Q7 (g:=gf) (q:=c) (ht16.mono l1720) hB.ct (kw16.mono l1720) hswz oV hB'.ct) ?_;rintro v21 u21 l21 rfl;refine G.giveP (ma:=m17) (sm:=PH.mt) kV (by funext g;unfold PH.or;cases m17 g<;>rfl) (fun g=>.inr rfl) (fun g=>.inl rfl) ?_
 intro u22 l22 hm22;refine G.lU none gf 0 (.int .i64 0) (Po (((l1720.trans l21).trans l22) _ _ hgf16) (G2 rfl rfl)) ?_;refine G.nF 0 0 ?_;have hM:C7 u22 (.slice (some ⟨go,0,none⟩) (P.length+1) yc) (Cv Z):=V9 (v:=.bool true) hbag hrows hm22;obtain⟨mf,hxf,_⟩:=hbag.focus 0 rfl;rw[D6]at hxf;have hRz:Cj u22 (.slice (some ⟨gs,0,none⟩) (P.length+1) scc) (z.map Ae):=by
  unfold Cj;rw[<-J7];exact hxf.list hm22
 exact G.r (.tuple #[.agg #[.slice qa P.length qc,.slice (some ⟨go,0,none⟩) (P.length+1) yc,.slice (some ⟨gs,0,none⟩) (P.length+1) scc,.string (mkS (Ae (s+(w:Rat)*x B7*x B7))),.string (mkS (Ae (c+(w:Rat)))),.string (mkS (Ae q))],.int .i64 0])
  ⟨rfl,_,rfl,qa,qc,some ⟨go,0,none⟩,yc,some ⟨gs,0,none⟩,scc,by rw[hZr2,hbl'],hP16.mono ((l1720.trans l21).trans l22),by rw[hZr2];exact hM,by rw[hbl'];exact hRz⟩
end
end
section
section
variable {u:PH} {tv sv:Value} {T:zC} {R:List Br} {F:List Al} {l:Nat} {ss:zW} {P:List Par} {X:zM} {b:zR} {s c q:Rat} {w:Int} {C:CF}
variable {a1 a2 a3:zP} {c1 c2 c3:Nat}
def Af7 (h:Ma u sv P X b s c q)(Q:P≠[])(J:Ah3 P X b s c)(a0:P.length<=900):zF 86 [sv] u fun r V=>Ma V r P X b s c q:=by
 obtain⟨pa,pc,xa,xc,ra,rc,rfl,h1,h2,h3⟩:=h;have a4:=J.n;have t:=J.bn;have H:=J.sq;have hc:=(Yg (t1:=Ae s) (t2:=Ae c) (t3:=Ae q) h1 h2 h3 Q (by intro e;rw[e]at t;simp at t) (fun r U e=>by have:=H.row r U;rw[e]at this;simp at this;omega) oV oV (fun r U=>by rw[H.row r U];omega) oV).giveAll;refine Fn0.weak hc ?_;rintro r V ⟨u0,m0,L,E,qa,qc,ya,yc,Y,Z,W,rfl,K,m,j⟩;obtain⟨mf,I,_⟩:=j.focus 0 rfl;rw[D6]at I;have hR:Cj V (.slice Y b.length Z) (b.map Ae):=by
  unfold Cj;rw[<-J7];exact I.list E
 exact⟨qa,qc,ya,yc,Y,Z,rfl,K.mono L,V9 (v:=zT) j m E,hR⟩
def Anb (h:Mv u (.agg #[.slice a1 T.length c1,.slice a2 R.length c2,.slice a3 F.length c3,zI l]) tv T R F (l:Int) ss)(W:G4 F (l:Int) ss=false){pa xa ra:zP}{pc xc rc:Nat}
 (V:Ma u (.agg #[.slice pa P.length pc,.slice xa (P.length+1) xc,.slice ra (P.length+1) rc,zS (Ae s),zS (Ae c),zS (Ae q)]) P X b s c q) (E:P≠[]) (U:Ah3 P X b s c) (j:P.length<=900) (H:w≠0) (I:-1000000000000<=w) (J:w<=1000000000000) :
 zF 57 [stV pa P.length pc xa xc ra rc s c q a1 T.length c1 a2 R.length c2 a3 F.length c3 (l:Int),tv,zI w] u fun r L=>∃ e,r=.tuple #[e,zO]/\Ma L e P X b s c q:=by
 have m:=Ail (pa:=pa) (n:=P.length) (pc:=pc) (xa:=xa) (xc:=xc) (ra:=ra) (rc:=rc) (s:=s) (c:=c) (q:=q) (w:=w) h W H I J;have t:=fun (L:PH) (K:PH.le u L)=>Af7 (V.mono K) E U j;refine Fn0.o func57<|G.c call68 m ?_;rintro v1 u1 K rfl;refine G.nF 0 0<|G.c call86 (t u1 K) ?_;rintro v2 u2 l2 Q;obtain⟨Y,qc,ya,yc,Z,sc,rfl,h1,h2,h3⟩:=id Q;exact G.r (.tuple #[.agg #[.slice Y P.length qc,.slice ya X.length yc,.slice Z b.length sc,zS (Ae s),zS (Ae c),zS (Ae q)],zO]) ⟨rfl,_,rfl,Q⟩
def Aqi (F:List Al)(l:Nat)(P:List Par)(ss:zW):Prop:=G4 F (l:Int) ss=false\/Av5 F l P ss
def Sg {zv:Value}(ht:Hx u)(h:Mv u zv tv T R F (l:Int) ss)(I:Aqi F l P ss)(hS:Ma u sv P X b s c q)(hN:H9 P C q X b s c)(hp:Td F P q)(Q:P≠[])(hC:Ug P C)(J:Ug P (C.add ((cfT F (l:Int) ss).scale (w:Rat))))(h5:P.length<=5)(U:w≠0)(V:-1000000000000<=w)(W:w<=1000000000000) :
 zF 15 [zv,sv,tv,zI w] u fun r Y=>∃ j t b' H E,r=.tuple #[j,zO]/\Ma Y j P t b' H E q/\H9 P (C.add ((cfT F (l:Int) ss).scale (w:Rat))) q t b' H E:=by
 have Z:=hN.okF hp hC;have K:=Z.n;have L:=Z.bn;have m:∀ (pa xa ra a1 a2 a3:zP) (pc xc rc c1 c2 c3:Nat),zv=.agg #[.slice a1 T.length c1,.slice a2 R.length c2,.slice a3 F.length c3,zI l]->sv=.agg #[.slice pa P.length pc,.slice xa (P.length+1) xc,.slice ra (P.length+1) rc,zS (Ae s),zS (Ae c),zS (Ae q)] ->
  zF 57 [stV pa P.length pc xa xc ra rc s c q a1 T.length c1 a2 R.length c2 a3 F.length c3 (l:Int),tv,zI w] u fun r Y=>∃ j t b' H E,r=.tuple #[j,zO]/\Ma Y j P t b' H E q/\H9 P (C.add ((cfT F (l:Int) ss).scale (w:Rat))) q t b' H E:=by
  rintro pa xa ra a1 a2 a3 pc xc rc c1 c2 c3 rfl rfl;rcases I with I|I
  ·refine Fn0.weak (Anb h I hS Q Z oV U V W) ?_;rintro r Y ⟨j,rfl,k⟩;refine⟨j,X,b,s,c,rfl,k,?_⟩;rw[Als (Awu h.ok h.fit I)];exact hN
  have o:=Apr h.ok h.fit I.cnt;obtain⟨h1,h2⟩:=hN.stepF hp o J;obtain⟨_,_,_,_,_,_,e,k1,k2,k3⟩:=hS;rw[K]at e k2;rw[L]at e k3;cases e;refine Fn0.weak (Amb ht h I k1 k2 k3 hp Q Z (hN.light hp hC h5) h5 U V W h1 (h2.okF hp J)) ?_;rintro r Y ⟨j,rfl,k⟩;exact⟨j,_,_,_,_,rfl,k,h2⟩
 obtain⟨⟨a1,c1,a2,c2,a3,c3,rfl,_⟩,_⟩:=id h;obtain⟨pa,pc,xa,xc,ra,rc,rfl,_⟩:=id hS;rw[K,L]at m⊢;refine Fn0.o func15<|G.c call57 (m pa xa ra a1 a2 a3 pc xc rc c1 c2 c3 rfl rfl) ?_;rintro v1 u1 l1 ⟨j,t,b',H,E,rfl,k1,k2⟩;obtain⟨qa,qc,ya,yc,sa,sc,rfl,h1,h2,h3⟩:=id k1;exact G.r (.tuple #[.agg #[.slice qa P.length qc,.slice ya t.length yc,.slice sa b'.length sc,zS (Ae H),zS (Ae E),zS (Ae q)],zO]) ⟨rfl,_,t,b',H,E,rfl,k1,k2⟩
end
end
section
variable {v v':Value}
def Ad9 {u:PH}{L m:List Par}(h:Ac u v 2 (L.map Ap))(Q:Ac u v' 2 (m.map Ap))(hl:L.length<=1000000)(a0:m.length<=1000000) :
 zF 38 [v,v'] u fun r _=>r=.bool (decide (L=m)):=by
 obtain⟨a,c,rfl⟩:=h.opn;obtain⟨W,U,rfl⟩:=Q.opn;rw[A03]at h Q⊢;rw[A03];refine Fn0.o func38 ?_;by_cases hn:L.length=m.length
 ·refine G.nF L.length m.length<|G.l (ι:=Nat) (fun i=>[(0,sV a L.length c),(1,sV W m.length U),(12,iV L.length),(13,iV i)]) (fun _=>[])
   (fun i u' V=>(i<=L.length/\L.take i=m.take i)/\V=PH.mt) (fun i=>L.length-i) 0 ⟨⟨oV,mV⟩,rfl⟩ ?_
  rintro J k hJ u' V E ⟨⟨hk,t⟩,rfl⟩;by_cases H:k<L.length
  ·refine G.lT k L.length ?_;obtain⟨p,hp⟩:∃ p,L[k]?=some p:=⟨_,A01 H⟩;obtain⟨q,K⟩:∃ q,m[k]?=some q:=⟨_,A01 oV⟩;obtain⟨ba,oa,rfl,Y⟩:=Ac.at' (h.mono E) (j:=k) (e:=Ap p) (by simp[hp]);obtain⟨bb,ob,rfl,Z⟩:=Ac.at' (Q.mono E) (j:=k) (e:=Ap q) (by simp[K]);refine G.N L.length c H Y<|G.n m.length U Z ?_;by_cases I:p=q
   ·exact G.neAgg 118 #[zI p.1,zS p.2] #[zI q.1,zS q.2] true kV kV kV (fun w=>by rw[<-decide_eq_true I];exact Bq.eq p q w)<|G.i k<|G.b (hJ (k+1) _ _ _ cV E ⟨⟨oV,by rw[A1n,A1n,t,hp,K,I]⟩,rfl⟩ oV)
   exact G.neAgg 118 #[zI p.1,zS p.2] #[zI q.1,zS q.2] false kV kV kV (fun w=>by rw[<-decide_eq_false I];exact Bq.eq p q w)<|G.r zL ⟨rfl,by rw[decide_eq_false];rintro rfl;rw[hp]at K;cases K;exact I rfl⟩
  refine G.lF k L.length ?_;have:L=m:=by rw[A1j oV,A1j oV]at t;exact t
  exact G.r zT ⟨rfl,by simp[this]⟩
 exact G.nT L.length m.length<|G.r zL ⟨rfl,by rw[decide_eq_false];rintro rfl;exact hn rfl⟩
def Amp {u:PH}{X:zM}(h:C7 u v (Cv X))(m:C7 u v' (Cv X))(hl:X.length<=1000)(Q:∀ r∈X,r.length<=1000) :
 zF 19 [v,v'] u fun r _=>r=zT:=by
 obtain⟨a,c,rfl⟩:=h.opn;obtain⟨H,E,rfl⟩:=m.opn;rw[A3]at h m⊢;refine Fn0.o func19<|G.nF X.length X.length<|G.l (ι:=Nat) (fun i=>[(0,sV a X.length c),(1,sV H X.length E),(12,iV X.length),(13,iV i)]) (fun _=>[])
  (fun i u' V=>i<=X.length/\V=PH.mt) (fun i=>X.length-i) 0 ⟨oV,rfl⟩ ?_
 rintro J i L u1 m1 t ⟨hi,rfl⟩;by_cases e:i<X.length
 ·refine G.lT i X.length ?_;obtain⟨r,j⟩:∃ r,X[i]?=some r:=⟨_,A01 e⟩;have U:=Q r (A1k j);obtain⟨b1,o1,Z,c5,rfl,I,W⟩:=(h.mono t).row (Dw j);obtain⟨b2,o2,a6,c6,rfl,K,Y⟩:=(m.mono t).row (Dw j);refine G.N X.length c e I<|G.N X.length E e K<|G.c call64 (Ag2 W Y (by rw[A03];omega) (by rw[A03];omega)) ?_;rintro v2 u2 l2 rfl;rw[decide_eq_true rfl];exact G.i i<|G.b (L (i+1) _ _ _ cV (t.trans l2) ⟨oV,rfl⟩ oV)
 exact G.lF i X.length<|G.z zT
section
variable {u:PH} {sv sv':Value} {T:zC} {R:List Br} {F:List Al} {l:Nat} {P:List Par} {X:zM} {b:zR} {s c q:Rat} {C:CF}
theorem Ah6 (h:Ma u sv P X b s c q)(h':Ma u sv' P X b s c q)(hP:P.length<=1000)(hX:X.length<=1000)(hr:∀ r∈X,r.length<=1000)(hb:b.length<=1000):zF 20 [sv,sv'] u fun r _=>r=zT:=by
 obtain⟨pa,pc,xa,xc,ra,rc,rfl,h1,h2,h3⟩:=h;obtain⟨qa,qc,ya,yc,sa,sc,rfl,k1,k2,k3⟩:=h';refine Fn0.o func20 ?_;refine G.c call38 (Ad9 h1 k1 oV oV) ?_;rintro v1 u1 l1 rfl;rw[decide_eq_true rfl];refine G.c call19 (Amp (h2.mono l1) (k2.mono l1) hX hr) ?_;rintro v2 u2 l2 rfl;have l12:=l1.trans l2;refine G.c call64 (Ag2 (Ac.mono h3 l12) (Ac.mono k3 l12) (by rw[A03];omega) (by rw[A03];omega)) ?_;rintro v3 u3 l3 rfl;rw[decide_eq_true rfl];refine G.q (Ae s) (Ae s) rfl ?_;refine G.q (Ae c) (Ae c) rfl ?_;refine G.q (Ae q) (Ae q) rfl ?_;exact G.z zT
def T9 {m:zM}{b':zR}{H t:Rat}(h:Ma u sv P X b s c q)(Q:Ma u sv' P m b' H t q)(E:H9 P C q X b s c)(j:H9 P C q m b' H t)(hp:Td F P q)(U:Ug P C):zF 20 [sv,sv'] u fun r _=>r=zT:=by
 obtain⟨I,J,K,L⟩:=E.uniq j;subst I J K L;have e:=E.okF hp U;have Y:=hp.le;have V:=e.n;have W:=e.bn;exact Ah6 h Q oV oV (fun r Z=>by rw[e.sq.row r Z];omega) oV
def Vb {p t:Nat}(hp:p<=100000)(e:t<=100000):zF 39 [zI p,zI t] u fun r _=>r=.bool (decide (t<=p/2+p%2)):=by
 refine Fn0.o func39<|G.hT p 0<|G.hT t 0<|G.quo (p:Int) 2 ((p/2:Nat):Int) kV oV oV oV oV<|G.rem (p:Int) 2 ((p%2:Nat):Int) kV oV oV oV oV<|G.p (p/2:Nat) (p%2:Nat) (p/2+p%2:Nat) ?_;by_cases h:t<=p/2+p%2
 ·exact G.kT t (p/2+p%2:Nat)<|G.r zT ⟨rfl,by rw[decide_eq_true h]⟩
 exact G.kF t (p/2+p%2:Nat)<|G.r zL ⟨rfl,by rw[decide_eq_false h]⟩
end
end
noncomputable def Oo (F:List Al)(lab:Int)(C:CF)(L:List Dm):CF:=L.foldl (fun C y=>C.add ((cfT F lab y.1).scale (y.2.1:Rat))) C
def Ano (F:List Al)(lab:Int)(L e:List Dm):Oo F lab (Cf F lab L) e=Cf F lab (L++e):=by unfold Cf Oo;rw[A5w]
def Wh {F:List Al}{lab:Int}{C:CF}{L:List Dm}{i:Nat}{y:Dm}(h:L[i]?=some y):Oo F lab C (L.take (i+1))=(Oo F lab C (L.take i)).add ((cfT F lab y.1).scale (y.2.1:Rat)):=by
 unfold Oo;rw[A1n,h,A5w];rfl
structure SI where
 i:Nat
 pa:zP
 pc:Nat
 xa:zP
 xc:Nat
 ra:zP
 rc:Nat
 s:Rat
 c:Rat
section
variable {i j:Nat}
def U9 (v p g:Int)(k:Nat)(R row:List Int):List Int:=(List.range row.length).map fun j=>if k<j then (gZ row j*p-g*gZ R j)/v else gZ row j
def Abe (v p g:Int)(k:Nat)(R row:List Int):(U9 v p g k R row).length=row.length:=by simp[U9]
def Afq {v p g:Int}{k:Nat}{R row:List Int}(h:j<row.length):gZ (U9 v p g k R row) j=if k<j then (gZ row j*p-g*gZ R j)/v else gZ row j:=by
 unfold U9;exact Abr _ h
def LdN (n k:Nat)(v:Int)(X Y:List (List Int))(i:Nat):Prop:=E8 n n Y/\∀ r,r<n->gMZ Y r=if k<r/\r<i then U9 v (enZ X k k) (enZ X r k) k (gMZ X k) (gMZ X r) else gMZ X r
def LdN.init {n k:Nat}{v:Int}{X:List (List Int)}(h:E8 n n X):LdN n k v X X (k+1):=⟨h,fun r e=>by rw[if_neg oV]⟩
def LdN.row {n k:Nat}{v:Int}{X Y:List (List Int)}(h:LdN n k v X Y i)(t:E8 n n X)(hi:i<n)(u:k<i):LdN n k v X (Y.set i (U9 v (enZ X k k) (enZ X i k) k (gMZ X k) (gMZ X i))) (i+1):=by
 refine⟨Lt h.1 hi (by rw[Abe];exact t.2 i hi),fun r C=>?_⟩;rw[Kv (by rw[h.1.1];exact hi)];by_cases e:i=r
 ·subst e;rw[if_pos rfl,if_pos ⟨u,oV⟩]
 rw[if_neg e,h.2 r C];by_cases m:k<r/\r<i
 ·rw[if_pos m,if_pos ⟨m.1,oV⟩]
 rw[if_neg m,if_neg oV]
def LdN.at {n k:Nat}{v:Int}{X Y:List (List Int)}(h:LdN n k v X Y n)(u:E8 n n X){i j:Nat}(hi:i<n)(C:j<n):enZ Y i j=if k<i/\k<j then (enZ X i j*enZ X k k-enZ X i k*enZ X k j)/v else enZ X i j:=by
 have t:=h.2 i hi;unfold enZ at t⊢;rw[t];by_cases e:k<i
 ·rw[if_pos ⟨e,hi⟩,Afq (by rw[u.2 i hi];exact C)];by_cases m:k<j
  ·rw[if_pos m,if_pos ⟨e,m⟩]
  rw[if_neg m,if_neg oV]
 rw[if_neg oV,if_neg oV]
structure Tc (n:Nat)(M:Nat->Nat->Int)(E k:Nat)(v:Int)(X:List (List Int)):Prop where
 rc:E8 n n X
 v0:0<v
 vs:nl v.natAbs<=zs E k
 sz:∀ i j,i<n->j<n->nl (enZ X i j).natAbs<=zs E k
 bar:∃ P S,Bar n M P k v S/\∀ i j,k<=i->i<n->k<=j->j<n->S i j=enZ X i j
 sch:∀ i j,k<=i->i<n->k<=j->j<n->(enZ X i j:Rat)=(v:Rat)*C6 (fun i j=>(M i j:Rat)) k i j
section
variable {n:Nat} {M:Nat->Nat->Int} {E k:Nat} {v:Int} {X Y:List (List Int)}
def Tc.init (t:E8 n n X)(h:∀ i j,i<n->j<n->enZ X i j=M i j)(u:∀ i j,i<n->j<n->nl (M i j).natAbs<=E)(m:1<=E):Tc n M E 0 1 X :=
 ⟨t,fV,A04 (nl1 (n:=1) oV) m,fun i j hi e=>by rw[h i j hi e];exact u i j hi e,⟨fun _=>0,M,Bar.init n M _,fun i j _ hi _ e=>(h i j hi e).symm⟩,
  fun i j _ hi _ e=>by rw[h i j hi e];show _=((1:Int):Rat)*(M i j:Rat);rw[show ((1:Int):Rat)=1 from rfl,Rat.one_mul]⟩
def Tc.piv (h:Tc n M E k v X)(F:∀ i k,i<n->k<n->(M i k:Rat)=(M k i:Rat))(hp:∀ x,(∃ i,i<n/\x i≠0)->0<frm n (fun i j=>(M i j:Rat)) x)(e:k<n):0<enZ X k k:=by
 have t:=h.sch k k (A08 _) e (A08 _) e;have u:=Akt F hp e;have C:(0:Rat)<(v:Rat):=by exact_mod_cast h.v0
 have m:=Rat.mul_pos C u;rw[<-t]at m
 exact_mod_cast m
def Tc.fit (h:Tc n M E k v X)(e:k<n)(hi:i<n)(m:j<n):nl (enZ X i j*enZ X k k).natAbs<=2*zs E k/\nl (enZ X i k*enZ X k j).natAbs<=2*zs E k/\nl (enZ X i j*enZ X k k-enZ X i k*enZ X k j).natAbs<=2*zs E k+1/\nl ((enZ X i j*enZ X k k-enZ X i k*enZ X k j)/v).natAbs<=2*zs E k+1 :=
 Vw (h.sz k k e e) (h.sz i k hi e) (h.sz i j hi m) (h.sz k j e m)
theorem Tc.step (h:Tc n M E k v X)(Q:∀ i k,i<n->k<n->(M i k:Rat)=(M k i:Rat))(hp:∀ x,(∃ i,i<n/\x i≠0)->0<frm n (fun i j=>(M i j:Rat)) x)(m:k<n)(V:LdN n k v X Y n):Tc n M E (k+1) (enZ X k k) Y:=by
 have L:=h.piv Q hp m;obtain⟨P,S,U,F⟩:=h.bar;have C:S k k=enZ X k k:=F k k (A08 _) m (A08 _) m;have W:S k k≠0:=by rw[C];omega
 have hz:zs E (k+1)=2*zs E k+2:=rfl;have I:=fun (i j:Nat) (hi:i<n) (K:i≠k)=>U.dvdAll m W i j hi K;have H:=fun (i j:Nat) (hi:i<n) (J:j<n)=>V.at h.rc hi J;refine⟨V.1,L,A04 (h.sz k k m m) oV,fun i j hi J=>?_,⟨Kc P k k,fun i j=>if i=k then S k j else (S i j*S k k-S i k*S k j)/v,?_,fun i j h1 t h3 u=>?_⟩,fun i j h1 t h3 u=>?_⟩
 ·rw[H i j hi J];split
  ·have:=(h.fit m hi J).2.2.2;omega
  have:=h.sz i j hi J;omega
 ·rw[<-C];refine U.step m W (fun j=>by rw[if_pos rfl]) fun i hi K j=>?_;rw[if_neg K];exact Int.mul_ediv_cancel' (I i j hi K)
 ·dsimp only;rw[if_neg oV,H i j t u,if_pos ⟨oV,oV⟩,C,F i j oV t oV u,F i k oV t (A08 _) m,F k j (A08 _) m oV u]
 have Z:v*enZ Y i j=enZ X i j*enZ X k k-enZ X i k*enZ X k j:=by
  rw[H i j t u,if_pos ⟨oV,oV⟩];refine Int.mul_ediv_cancel' ?_;have:=I i j t oV;rwa[C,F i j oV t oV u,F i k oV t (A08 _) m,F k j (A08 _) m oV u]at this
 have T:(v:Rat)*(enZ Y i j:Rat)=(enZ X i j:Rat)*(enZ X k k:Rat)-(enZ X i k:Rat)*(enZ X k j:Rat):=by exact_mod_cast congrArg (fun z:Int=>(z:Rat)) Z
 have hv:(v:Rat)≠0:=by
  have:=h.v0;intro e;have:v=0:=by exact_mod_cast e
  omega
 have a0:=Akt Q hp m;have R:=O9 Q k j k u m;rw[h.sch i j oV t oV u,h.sch k k (A08 _) m (A08 _) m,h.sch i k oV t (A08 _) m,h.sch k j (A08 _) m oV u]at T;rw[h.sch k k (A08 _) m (A08 _) m];show _=_*(C6 _ k i j-C6 _ k i k/C6 _ k k k*(C6 _ k j k/C6 _ k k k)*C6 _ k k k);rw[R];generalize (enZ Y i j:Rat)=y at *
 generalize C6 (fun i j=>(M i j:Rat)) k i j=a at *
 generalize C6 (fun i j=>(M i j:Rat)) k i k=b at *
 generalize C6 (fun i j=>(M i j:Rat)) k k j=c at *
 generalize C6 (fun i j=>(M i j:Rat)) k k k=d at *
 have hd:d≠0:=by grind
 have e3:(v:Rat)*y=(v:Rat)*((v:Rat)*(a*d-b*c)):=by rw[T];grind
 have e4:y=(v:Rat)*(a*d-b*c):=by grind
 rw[e4];have e5:b/d*(c/d)*d=b*c/d:=by grind
 rw[e5];have e6:b*c/d*d=b*c:=by grind
 generalize b*c/d=w at *
 grind
end
end
def Awg {u:PH}{k:Int}{f1 f2:N3}{fv:Value}:zF 231 [zI k,nv f1,nv f2,fv] u fun r _=>r=.tuple #[]:=Fn0.o func231<|G.z (.tuple #[])
def Bag.pre:∀ {l l':List Arr} {m:PH},Bag m (l++l')->Bag m l
 |[],_,_,_=>trivial
 |_::_,_,_,⟨m0,h1,h2⟩=>⟨m0,h1,Bag.pre h2⟩
def Bag.tl {m:PH}{x:Arr}{l:List Arr}(h:Bag m (x::l)):Bag m l:=Bag.pre (l':=[x]) (Bag.perm (A5r (l₁:=[x])) h)
def Axv {W:List Int}{j t:Nat}{x:Int}(h:j<W.length):gZ (W.set j x) t=if j=t then x else gZ W t:=by
 unfold gZ;rw[A02,A1z,A02];by_cases e:j=t
 ·subst e;simp[h]
 simp[e]
def Ay6 {A B:List Int}{n:Nat}(m:A.length=n)(u:B.length=n)(h:∀ t,t<n->gZ A t=gZ B t):A=B:=by
 refine A5l oV fun i e j=>?_;rw[<-Ol e,<-Ol j];exact h i oV
def Aou {u m:PH}{go n K E:Nat}{f:N3}{L:List (Value×zV)}{X:List (List Int)}{M:Nat->Nat->Int}(hn:n<=12)(h0:0<n)(hL:Tc n M E 0 1 X)
 (hs:∀ i k,i<n->k<n->(M i k:Rat)=(M k i:Rat)) (hp:∀ x,(∃ i,i<n/\x i≠0)->0<frm n (fun i j=>(M i j:Rat)) x) (hE:∀ k,k<=n->zs E k<=1000000) (T:NAt u L X)
 (h:Bag m (oN (zG go n K) L::L.map C3)) :
 Ag prog 230 [.agg #[.bool f.b,.slice f.a f.n f.c,zG go n K],.func (.func 231) #[] #[]] u m fun r _ _=>r=zI n:=by
 refine Ag.o func230<|G.c call121 (Kf (z:=1) oV oV) ?_;intro v1 u1 l1 k1;obtain⟨f1,rfl⟩:=k1.opN;refine G.pastI<|G.pub 1003 185 [zG go n K] kV kV ?_;intro g5 bx ak;have ah:Bag (m.upd g5 (.cells [Value.slice (zA go) n K].toArray 185 (0,0))) (Kq g5 185 [zG go n K]::oN (zG go n K) L::L.map C3) :=
  ⟨m,R1 ak (fun x hx=>by simp at hx;subst hx;exact⟨rfl,rfl⟩),h⟩
 refine G.l (ι:=Nat×N3×Int×List (Value×zV)×List (List Int)) (fun i=>[(1,.v (.func (.func 231) #[] #[])),(5,.v (.pointer (zA g5))),(6,.p 1004 0),(15,iV n),(16,iV i.1)])
  (fun i=>[(1004,⟨141,Age i.2.1⟩)])
  (fun i u' m'=>i.1<=n/\Bi u' (nv i.2.1) i.2.2.1/\Tc n M E i.1 i.2.2.1 i.2.2.2.2/\NAt u' i.2.2.2.1 i.2.2.2.2/\Bag m' (Kq g5 185 [zG go n K]::oN (zG go n K) i.2.2.2.1::i.2.2.2.1.map C3)) (fun i=>n-i.1)
  (0,f1,1,L,X) ⟨A1t _,k1,hL,T.mono l1,ah⟩ ?_
 clear ah h T hL k1;rintro J ⟨k,f2,v,R,Y⟩ hJ u2 m2 l2 ⟨hk,hv,hL,T,h⟩;simp only at hk hv hL T h hJ;by_cases F:k<n
 ·refine G.lT k n<|G.pastI<|G.pub 4001 3 [zI k] kV kV ?_;intro g7 bz al;have P:Bag (m2.upd g7 (.cells [Value.int .i64 k].toArray 3 (0,0))) (Kq g7 3 [zI k]::Kq g5 185 [zG go n K]::oN (zG go n K) R::R.map C3) :=
   ⟨m2,R1 al (fun x hx=>by simp at hx;subst hx;exact⟨rfl,rfl⟩),h⟩
  clear h;generalize m2.upd g7 _=m3 at P⊢;have hX:=hL.rc;have bt:=hE k oV;obtain⟨gk,ck,ek,bk,bi,b5,am,ai⟩:=Ur P T hX F h0;obtain⟨fp,p5,p6,p7⟩:=ai k F;have c3:=hL.piv hs hp F;have a4:=hL.sz;have ap:=a4 k k F F;refine G.v none (Cg P (i:=1) (j:=0) rfl rfl)<|G.v none (Cg P (i:=0) (j:=0) rfl rfl)<|G.O n K F am<|G.v none (Cg P (i:=0) (j:=0) rfl rfl)<|G.O n ck F p7<|G.c call195 (N1 (p6) (A04 ap oV)) ?_;rintro v3 u3 l3 rfl;have bl:sgn (enZ Y k k)=1:=by unfold sgn;rw[if_neg oV,if_pos oV]
  rw[bl];refine G.kF 1 0<|G.v none (Cg P (i:=0) (j:=0) rfl rfl)<|G.c call231 (Awg (k:=(k:Int)) (f1:=fp) (f2:=f2) (fv:=.func (.func 261) #[] #[.pointer (zA g5),.pointer (zA g7)])) ?_;rintro v4 u4 l4 rfl;refine G.v none (Cg P (i:=0) (j:=0) rfl rfl)<|G.i k<|G.l (ι:=Nat×List (Value×zV)×List (List Int)) (fun i=>[(1,.v (.func (.func 231) #[] #[])),(5,.v (.pointer (zA g5))),(6,.p 1004 0),(7,.v (.pointer (zA g7))),(8,.p 5007 0),(9,iV i.1),(15,iV n),(16,iV k)])
   (fun _=>[(1004,⟨141,Age f2⟩),(5007,⟨141,Age fp⟩)])
   (fun i u' m'=>k+1<=i.1/\i.1<=n/\LdN n k v Y i.2.2 i.1/\NAt u' i.2.1 i.2.2/\Bag m' (Kq g7 3 [zI k]::Kq g5 185 [zG go n K]::oN (zG go n K) i.2.1::i.2.1.map C3)) (fun i=>n-i.1)
   (k+1,R,Y) ⟨A08 _,F,LdN.init hX,T.mono (l3.trans l4),P⟩ ?_
  clear P bk bi b5 am ai p5 p7 T;rintro J2 ⟨i,C,Z⟩ af u5 m5 l5 ⟨bg,be,hZ,T,h⟩;simp only at bg be hZ T h af;have aa:=hZ.1;have a8:=(l3.trans l4).trans l5;have bm:=hv.mono a8;have an:=p6.mono a8;refine G.v none (Cg h (i:=1) (j:=0) rfl rfl) ?_;by_cases I:i<n
  ·refine G.lT i n<|G.v none (Cg h (i:=0) (j:=0) rfl rfl)<|G.i k ?_;obtain⟨V,U,ei,ad,c0,b4,c1,bu⟩:=Ur h T aa I h0;obtain⟨gs,cs,es,aq,c4,bs,c2,b9⟩:=Ur h T aa F h0;have bj:C.length=n:=by rw[T.1,aa.1]
   have b1:gMZ Z i=gMZ Y i:=by rw[hZ.2 i I,if_neg oV]
   have b2:gMZ Z k=gMZ Y k:=by rw[hZ.2 k F,if_neg oV]
   have a9:(gMZ Y i).length=n:=hX.2 i I;have aj:=fun (j:Nat) (hj:j<n)=>hL.fit F I hj;have bd:=a4 i k I F;have b7:∀ t,t<n->nl (enZ Y i t).natAbs<=zs E k:=fun t ht=>a4 i t I ht;have b8:∀ t,t<n->nl (enZ Y k t).natAbs<=zs E k:=fun t ht=>a4 k t F ht;refine G.l (ι:=Nat×zV×List Int) (fun y=>[(1,.v (.func (.func 231) #[] #[])),(5,.v (.pointer (zA g5))),(6,.p 1004 0),(7,.v (.pointer (zA g7))),(8,.p 5007 0),(9,iV i),(10,iV y.1),(15,iV n),(16,iV k)])
    (fun _=>[(1004,⟨141,Age f2⟩),(5007,⟨141,Age fp⟩)])
    (fun y u' m'=>k+1<=y.1/\y.1<=n/\y.2.2.length=n/\(∀ t,t<n->gZ y.2.2 t=if k<t/\t<y.1 then (enZ Y i t*enZ Y k k-enZ Y i k*enZ Y k t)/v else enZ Y i t)/\AtP Bi u' y.2.1 y.2.2 /\
     Bag m' (Kq g7 3 [zI k]::Kq g5 185 [zG go n K]::oN (zG go n K) C::(C.set i (zG V n U,y.2.1)).map C3)) (fun y=>n-y.1)
    (k+1,ei,gMZ Y i) ⟨A08 _,oV,a9,fun t ht=>by rw[if_neg oV];rfl,by rw[<-b1];exact b4,by rw[Ny ad];exact h⟩ ?_
   clear h;rintro J3 ⟨j,H,W⟩ ag u6 m6 l6 ⟨bh,bf,a3,hW,a0,h⟩;simp only at bh bf a3 hW a0 h ag;have bw:H.length=n:=by rw[a0.1,a3]
   have a1:(C.set i ((Value.slice (zA V) n U),H))[i]?=some ((Value.slice (zA V) n U),H):=by rw[A1z];simp[bj,I]
   have ab:(C.set i ((Value.slice (zA V) n U),H))[k]?=some (Value.slice (zA gs) n cs,es):=by rw[A1z,if_neg oV];exact aq
   refine G.v none (Cg h (i:=1) (j:=0) rfl rfl) ?_;by_cases Q:j<n
   ·refine G.lT j n ?_;have ac:ElP m6 go (0+i*1) (Value.slice (zA V) n U):=h.el 2 (x:=oN (zG go n K) C) rfl rfl (by show (C.map (·.1))[i]?=_;rw[A1a,ad];rfl);have bb:ElP m6 go (0+k*1) (Value.slice (zA gs) n cs):=h.el 2 (x:=oN (zG go n K) C) rfl rfl (by show (C.map (·.1))[k]?=_;rw[A1a,aq];rfl);obtain⟨e,e1,e2⟩:=a0.at (j:=j) oV;obtain⟨fe,rfl⟩:=e2.opN;rw[<-Ol oV,hW j Q,if_neg oV]at e2;obtain⟨d,d1,d2⟩:=a0.at (j:=k) oV;obtain⟨fd,rfl⟩:=d2.opN;rw[<-Ol oV,hW k F,if_neg oV]at d2;obtain⟨fs,s5,s6,_⟩:=b9 j Q;have b3:enZ Z k j=enZ Y k j:=by unfold enZ;rw[b2]
    rw[b3]at s6;have he:ElP m6 V (0+j*2) (nv fe):=h.el (i+3) (x:=C3 ((Value.slice (zA V) n U),H)) (F8 a1) rfl e1;have hd:ElP m6 V (0+k*2) (nv fd):=h.el (i+3) (x:=C3 ((Value.slice (zA V) n U),H)) (F8 a1) rfl d1;have ba:ElP m6 gs (0+j*2) (nv fs):=h.el (k+3) (x:=C3 (Value.slice (zA gs) n cs,es)) (F8 ab) rfl s5;refine G.v none (Cg h (i:=1) (j:=0) rfl rfl)<|G.O n K I ac<|G.v none (Cg h (i:=1) (j:=0) rfl rfl)<|G.O n K I ac<|G.O n U Q he<|G.v none (Cg h (i:=1) (j:=0) rfl rfl)<|G.O n K I ac<|G.v none (Cg h (i:=0) (j:=0) rfl rfl)<|G.O n U F hd<|G.v none (Cg h (i:=1) (j:=0) rfl rfl)<|G.v none (Cg h (i:=0) (j:=0) rfl rfl)<|G.O n K F bb<|G.O n cs Q ba ?_;obtain⟨z1,z2,z3,z4⟩:=aj j Q;refine G.c call126 (Ea e2 (an.mono l6) (A04 (b7 j Q) oV) (A04 ap oV)) ?_;intro cb c6 a2 av;obtain⟨bp,rfl⟩:=av.opN;refine G.c call126 (Ea (d2.mono a2) (((s6.mono l6)).mono a2) (A04 bd oV) (A04 (b8 j Q) oV)) ?_;intro cc c7 a5 aw;obtain⟨bq,rfl⟩:=aw.opN;refine G.c call241 (Ac7 (av.mono a5) aw (A04 z1 oV) (A04 z2 oV)) ?_;intro cd c8 ae ax;obtain⟨br,rfl⟩:=ax.opN;have c5:=hL.v0;refine G.c call190 (M1 ax (bm.mono (((l6.trans a2).trans a5).trans ae)) (A04 z3 oV) (A04 hL.vs oV) oV) ?_;rintro ce ca b0 ⟨cg,ch,rfl,ay,az⟩;obtain⟨a7,rfl⟩:=ay.opN;obtain⟨bo,rfl⟩:=az.opN;obtain⟨m0,ar,ao⟩:=h.focus (i+3) (F8 a1);rw[Ack]at ar;refine G.a V 0 n U j 2 Q<|G.storeA 2 m0 H V n U j (nv a7) kV ar oV rfl rfl ?_;intro bn au;have a6:=ao (C3 ((Value.slice (zA V) n U),H.set j (nv a7))) bn au;rw[Afy,A6r]at a6;refine G.i j<|G.b (ag (j+1,H.set j (nv a7),W.set j ((enZ Y i j*enZ Y k k-enZ Y i k*enZ Y k j)/v)) _ _ _ cV ((((l6.trans a2).trans a5).trans ae).trans b0) ⟨dV,dV,by simpa using a3,fun t ht=>?_,?_,a6⟩ dV)
    ·dsimp only;rw[Axv oV];by_cases e:j=t
     ·subst e;rw[if_pos rfl,if_pos ⟨oV,oV⟩]
     rw[if_neg e,hW t ht];by_cases e3:k<t/\t<j
     ·rw[if_pos e3,if_pos ⟨e3.1,oV⟩]
     rw[if_neg e3,if_neg oV]
    exact (a0.mono (fun _ _ k=>k.mono (((a2.trans a5).trans ae).trans b0))).set j ay
   obtain rfl:j=n:=oV;refine G.lF j j ?_;have b6:W=U9 v (enZ Y k k) (enZ Y i k) k (gMZ Y k) (gMZ Y i):=Ay6 a3 (by rw[Abe];exact a9) fun t ht=>by
    rw[hW t ht,Afq (by rw[a9];exact ht)];by_cases e:k<t
    ·rw[if_pos ⟨e,ht⟩,if_pos e];rfl
    rw[if_neg oV,if_neg e];rfl
   subst b6;rw[<-Aq8 (es':=H) ad]at h;exact G.i i<|G.b (af (i+1,C.set i ((Value.slice (zA V) j U),H),Z.set i (U9 v (enZ Y k k) (enZ Y i k) k (gMZ Y k) (gMZ Y i))) _ _ _ cV (l5.trans l6) ⟨dV,dV,hZ.row hX I oV,(T.mono l6).set oV a0,h⟩ dV)
  obtain rfl:i=n:=oV;exact G.lF i i<|G.i k<|G.b (hJ (k+1,fp,enZ Y k k,C,Z) _ _ _ cV (l2.trans a8) ⟨dV,an,hL.step hs hp F hZ,T,h.tl⟩ dV)
 obtain rfl:k=n:=oV;exact G.lF k k<|G.v none (Cg h (i:=0) (j:=0) rfl rfl)<|G.r (zI k) rfl
section
variable {A:zM}{u:PH}{v:Value}
theorem Amv {n:Nat}{S A:Nat->Nat->Rat}{d:Rat}(h:∀ i k,i<n->k<n->S i k=A i k*d)(x:Nat->Rat):frm n S x=d*frm n A x:=by
 unfold frm;rw[<-B4];refine Ah fun i hi=>?_;have e:Bb n (fun k=>S i k*x k)=d*Bb n fun k=>A i k*x k:=by
  rw[<-B4];exact Ah fun k j=>by rw[h i k hi j];grind
 rw[e];grind
structure PdM (A:zM):Prop where
 sq:Sq A
 n0:0<A.length
 n6:A.length<=6
 sy:Avc A
 lt:∃ L,Y5 A L 86
 pd:∀ x,(∃ i,i<A.length/\x i≠0)->0<frm A.length (en A) x
def Avc.en {A:zM}(h:Avc A)(t:Sq A){i k:Nat}(hi:i<A.length)(e:k<A.length):en A i k=en A k i:=by
 have j:k<A[i].length:=by rw[t.len hi];exact e
 have m:i<A[k].length:=by rw[t.len e];exact hi
 unfold Go.Proofs.YtemmheaocgmebaaGreatDoor.en;rw[Ch hi,Ch e,Cu j,Cu m];exact h i k hi e j m
def Avr (h:C7 u v (Cv A))(I:PdM A):zF 180 [v] u fun r _=>r=zI A.length:=by
 obtain⟨L,U⟩:=I.lt;have F:=I.sq;have T:=F.le;have h0:=I.n0;have W:=F.tx;have a0:∀ r∈A,r.length<=12:=fun r Z=>by rw[F.row r Z];exact T
 refine Fn0.o func180<|G.callO _ _ kV call120 (Akc h W oV (fun r Z=>by have:=a0 r Z;omega) U.den U.pos U.nl) ?_;rintro v6 u6 m6 l6 ⟨D,fD,a6,c6,H,J,V,P,rfl,a1,Q,m⟩ _;rw[By];have t:H.length=A.length:=by rw[Q.1];simp
 obtain⟨go,co,eo⟩:=m.ptr 0 rfl (by intro e;simp only[oN,A6c]at e;rw[e]at t;simp at t;omega);simp only[oN,A03,t,Value.slice.injEq,true_and]at eo;obtain⟨rfl,rfl⟩:=eo;have R:∀ i,i<A.length->gMZ (A.map (Bp D)) i=Bp D (gM A i):=fun i hi=>by rw[Xj (by simpa using hi),A3v,Ch hi]
 have E:=fun (i k:Nat) (hi:i<A.length) (C:k<A.length)=>Ak4 (i:=i) (k:=k) F P hi C;have Y:Tc A.length (Oq D A) 86 0 1 (A.map (Bp D)):=by
  refine Tc.init ⟨mV,fun i hi=>?_⟩ (fun i j hi hj=>?_) (fun i j hi hj=>?_) oV
  ·rw[R i hi];unfold Bp;rw[A03,Ch hi,F.len hi]
  ·unfold enZ Oq;rw[R i hi]
  have X:j<(gM A i).length:=by rw[Ch hi,F.len hi];exact hj
  unfold Oq;rw[Wf X];exact Yp ((U.dig D V J).2 _ (Abw hi) _ (Xr X) (P _ (Abw hi) _ (Xr X)))
 have K:(0:Rat)<(D:Rat):=by exact_mod_cast J
 refine G.A call230 (Aou (f:=fD) T h0 Y (fun i k hi C=>by rw[<-E i k hi C,<-E k i C hi,I.sy.en F hi C]) (fun x hx=>by
  rw[Amv (A:=en A) (d:=(D:Rat)) (fun i k hi C=>(E i k hi C).symm)];exact Rat.mul_pos K (I.pd x hx)) (fun k C=>A04 (Aqf 86 (show k<=12 by omega)) fV) Q m) ?_
 rintro v7 u7 m7 l7 rfl _;rw[By];exact G.drop PH.mt kV (fun g o ho=>by cases ho)<|G.z (zI A.length)
def Amx (F:Hx u)(h:C7 u v (Cv A))(e:PdM A):zF 179 [v] u fun r _=>r=zO:=by
 obtain⟨L,j⟩:=e.lt;have m:=e.sq;have C:=e.n6;refine Fn0.o func179<|G.c call186 (Adf h m) ?_;rintro Q I t rfl;refine G.nF 0 0<|G.c call229 (Aiy (h.mono t) m e.sy) ?_;rintro R J l2 rfl;refine G.c call119 (Aie (N:=6) (K:=86) (F.mono (t.trans l2)) (h.mono (t.trans l2)) m.tx C (fun r E=>by rw[m.row r E];exact C) oV oV oV j.den j.pos j.nl j.dig) ?_;rintro T P H rfl;exact G.z zO
def Ab0 (t:Hx u)(h:C7 u v (Cv A))(j:PdM A):zF 102 [v] u fun r _=>r=.tuple #[zT,zO]:=by
 have m:=fun (e:PH) (l:PH.le u e)=>Amx (t.mono l) (h.mono l) j;have hp:=fun (e:PH) (l:PH.le u e)=>Avr (h.mono l) j;obtain⟨a,c,rfl⟩:=h.opn;rw[A3]at h m hp⊢;refine Fn0.o func102<|G.c call179 (m _ (PH.le_refl _)) ?_;rintro H E C rfl;refine G.nF 0 0<|G.c call180 (hp _ C) ?_;rintro I F l2 rfl;exact G.eT A.length A.length<|G.z (.tuple #[zT,zO])
end
section
variable {C:CF}{P:List Par}{X:zM}{q:Rat}
def At5 {u:PH}{v:Value}(E:Ac u v 2 (P.map Ap))(U:Hb Bk P)(hl:P.length<=1000000) :
 zF 99 [v] u fun r _=>r=zT:=by
 obtain⟨pa,pc,rfl⟩:=E.opn;rw[A03]at E⊢;refine Fn0.o func99<|G.l (ι:=Nat) (fun i=>[(0,sV pa P.length pc),(3,iV i)]) (fun _=>[])
  (fun i u' W=>1<=i/\W=PH.mt) (fun i=>P.length-i) 1 ⟨oV,rfl⟩ ?_
 rintro J i T u2 m2 l2 ⟨hi,rfl⟩;by_cases h:i<P.length
 ·refine G.lT i P.length ?_;have t:=E.mono l2;have F:P[i]?=some P[i]:=A01 h;have H:P[i-1]?=some (P[i-1]'oV):=A01 oV;have I:Bk (P[i-1]'oV) P[i]<0:=A3n.1 U (i-1) i oV h oV;obtain⟨Z,oa,K,Q⟩:=Ac.at' t (j:=i) (e:=Ap P[i]) (by simp[F]);obtain⟨L,Y,m,R⟩:=Ac.at' t (j:=i-1) (e:=Ap (P[i-1]'oV)) (by simp[H]);rw[K]at m;cases m;subst K;refine G.s i 1 (i-1:Nat)<|G.n P.length pc R<|G.N P.length pc h Q<|G.c call127 (Re _ _ true (decide_eq_true I)) ?_;rintro v3 u3 V rfl;exact G.i i<|G.b (T (i+1) _ _ _ cV (l2.trans V) ⟨oV,rfl⟩ oV)
 exact G.lF i P.length<|G.z zT
def H6.frmX (h:H6 P C q X)(m:0<q)(j:0<C.c)(hp:∀ z,0<=Dh z P C)(e:P.Nodup)(x:Nat->Rat)(t:∃ i,i<P.length+1/\x i≠0):0<frm (P.length+1) (en X) x :=
 Avk (Tg Mn h.inv) (fun y u=>Axs m j hp e y u) t
def H9.pdm {F:List Al}{b:zR}{s c:Rat}(h:H9 P C q X b s c)(hp:Td F P q)(j:Ug P C)(H:P.length<=5):PdM X:=by
 have m:=h.okF hp j;have J:=m.n;refine⟨m.sq,oV,oV,fun i k hi I u E=>?_,h.light hp j H,fun x t=>?_⟩
 ·have e:=Ak9 Mn h.inv.inv i k oV oV;unfold en at e;rw[Ch hi,Ch I,Cu u,Cu E]at e;exact e
 rw[J]at t⊢;exact h.inv.frmX hp.pen.pos j.pos j.psd (hp.srt.nodup Et) x t
def Anl {u:PH}{Z Y:Value}{T:zC}{R:List Br}{F:List Al}{l:Nat}{P:List Par}{X:zM}{b:zR}{s c q:Rat}{C:CF}
 (ht:Hx u) (W:H5 u Z T R F (l:Int)) (ok:Bl u T R F (l:Int)) (J:Ma u Y P X b s c q) (I:H9 P C q X b s c) (hp:Td F P q) (H:Ug P C) (h5:P.length<=5) :
 zF 43 [Z,Y] u fun r _=>r=zT:=by
 have h:=I.okF hp H;have e:=h.n;have j:=h.bn;have K:=Adn W ok;obtain⟨a1,c1,a2,c2,a3,c3,rfl,_⟩:=id W;obtain⟨pa,pc,xa,xc,ra,rc,rfl,hP,E,V⟩:=id J;rw[e]at E J;rw[j]at V J;rw[e,j];refine Fn0.o func43<|G.c call98 K ?_;rintro v1 u1 m rfl;refine G.nF 0 0<|G.c call99 (At5 (hP.mono m) hp.srt oV) ?_;rintro v2 u2 l2 rfl;refine G.c call100 (Xy (pa:=pa) (n:=P.length) (pc:=pc) (xa:=xa) (xc:=xc) (ra:=ra) (rc:=rc) (s:=s) (c:=c) (q:=q) (a1:=a1) (n1:=T.length) (c1:=c1) (a2:=a2) (n2:=R.length) (c2:=c2) (a3:=a3) (n3:=F.length) (c3:=c3) (lab:=(l:Int)) (E.mono (m.trans l2)) e (fun r Q=>by rw[h.sq.row r Q,e]) oV) ?_;rintro v3 u3 U rfl;refine G.c call101 (Uw (pa:=pa) (n:=P.length) (pc:=pc) (xa:=xa) (xc:=xc) (ra:=ra) (rc:=rc) (s:=s) (c:=c) (q:=q) (a1:=a1) (n1:=T.length) (c1:=c1) (a2:=a2) (n2:=R.length) (c2:=c2) (a3:=a3) (n3:=F.length) (c3:=c3) (lab:=(l:Int)) (E.mono ((m.trans l2).trans U)) (V.mono ((m.trans l2).trans U)) e (fun r Q=>by rw[h.sq.row r Q,e]) j h.sq.tx h.bt h.st h.ct hp.pen.tx oV) ?_;rintro v4 u4 l4 rfl;have t:=((m.trans l2).trans U).trans l4;have L:=Ab0 (ht.mono t) (E.mono t) (I.pdm hp H h5);refine G.c call102 L ?_;rintro v5 u5 l5 rfl;have a0:sgn c.num=1:=C5 (R4 (by rw[I.ct];exact H.pos));have a4:sgn q.num=1:=C5 (R4 hp.pen.pos);refine G.eT 0 0<|G.c call103 (S7 h.ct) ?_;rintro v6 u6 l6 rfl;refine G.gT (sgn c.num) 0<|G.c call103 (S7 hp.pen.tx) ?_;rintro v7 u7 l7 rfl;exact G.gT (sgn q.num) 0<|G.z zT
end
section
variable {g:Nat}{u:PH}
def Vi:zC:=[([120],2),([121],2)]
def Zt (g:Nat):List Br:=[([114],[0,1],(some ⟨g,0,none⟩,2))]
def Jc:List Al:=[(0,1,0)]
def Azf (h:Ac u (zG g 2 2) 1 (Ai [0,1])):Bl u Vi (Zt g) Jc 1 where
 att:=⟨Sc jV,fun a j=>by simp[Vi]at j;rcases j with rfl|rfl<;>decide⟩
 rel:=⟨Sc (by show (([[114]]:zW).all Hn&&decide ([[114]]:zW).Nodup)=true;decide +kernel),fun r e=>by simp[Zt]at e;subst e;simp,fun r e a j=>by simp[Zt]at e;subst e;simp at j;show a<2;omega,fun r e=>by simp[Zt]at e;subst e;simp,fun r e k x y t m=>by
  simp[Zt]at e;subst e
  match k,t,m with
  |0,t,m=>simp at t m;omega
  |k+1,t,m=>simp at m,fun a j=>⟨_,A12.2 rfl,by
  have:a<2:=j;simp;omega⟩,fun r e=>by simp[Zt]at e;subst e;exact h⟩
 feat:=⟨fun f C=>by
  simp[Jc]at C;subst C;exact⟨[120],2,rfl,.inl ⟨rfl,rfl,fV⟩,fV⟩,fV⟩
 t1:=fV
 t2:=fV
 r1:=by show 0<1;omega
 r2:=by show 1<=6;omega
 f2:=fV
 l1:=fV
 l2:=fun l E=>by
  have:l=1:=oV
  subst this;exact⟨[121],rfl⟩
def Ajf:Bw Vi [[49],[50]]:=⟨rfl,fun i x t e h=>by
 match i,e,h with
 |0,e,h=>cases e;cases h;exact .inr (.inr (.inr ⟨rfl,1,I7,jV⟩))
 |1,e,h=>cases e;cases h;exact .inr (.inr (.inr ⟨rfl,2,Au1,jV⟩))
 |i+2,e,h=>simp[Vi]at e⟩
def Abn:Bw Vi [[48],[52]]:=⟨rfl,fun i x t e h=>by
 match i,e,h with
 |0,e,h=>cases e;cases h;exact .inr (.inr (.inr ⟨rfl,0,⟨jV,jV⟩,jV⟩))
 |1,e,h=>cases e;cases h;exact .inr (.inr (.inr ⟨rfl,4,⟨jV,jV⟩,jV⟩))
 |i+2,e,h=>simp[Vi]at e⟩
def Ad2:List Par:=[((0:Int),[])]
def Ai2 (C:CF):Nn Jc C Ad2:=⟨A6f _ _,fun p=>by
 constructor
 ·intro h;have:p=(0,[]):=by simpa[Ad2] using h
  subst this;exact .inl ⟨0,(0,1,0),rfl,rfl,rfl⟩
 rintro (⟨i,f,rfl,hf,_⟩|⟨_,i,f,_,hf,h2⟩)
 ·have:i<1:=(A05.1 hf).1;have:i=0:=oV;subst this;exact A12.2 rfl
 have:i<1:=(A05.1 hf).1;have:i=0:=oV;subst this;cases hf;simp at h2⟩
def Ws:Fd 1:=⟨jV,⟨30,jV,fV⟩,I7.tx⟩
def Qr (g:Nat):List Dm:=[([[49],[50]],1,(some ⟨g,0,none⟩,2))]
def Ml (g h:Nat):List Dm:=[([[49],[50]],1,(some ⟨g,0,none⟩,2)),([[48],[52]],1,(some ⟨h,0,none⟩,2))]
def Apl (g h e:Nat):Cf Jc 1 (Ml g h)=(Cf Jc 1 (Qr e)).add ((cfT Jc 1 [[48],[52]]).scale ((1:Int):Rat)):=rfl
def Ays:Av5 Jc 1 Ad2 [[48],[52]]:=⟨jV,jV⟩
def Azq (ok:Bl u Vi (Zt g) Jc 1)(h:Nat):0<(Cf Jc 1 (Qr h)).c:=by
 have o:=Apr ok Ajf jV;have e:Cf Jc 1 (Qr h)=(CF.num 0).add ((cfT Jc 1 [[49],[50]]).scale ((1:Nat):Rat)):=rfl;rw[e];show 0<0+(cfT Jc 1 [[49],[50]]).c*((1:Nat):Rat);rw[o.c];decide +kernel
theorem Azp (ok:Bl u Vi (Zt g) Jc 1)(e h:Nat):0<(Cf Jc 1 (Ml e h)).c:=by
 have o:=Apr ok Abn jV;have j:=Azq ok e;rw[Apl e h e];show 0<(Cf Jc 1 (Qr e)).c+(cfT Jc 1 [[48],[52]]).c*((1:Int):Rat);rw[o.c];have:(0:Rat)<1*((1:Int):Rat):=jV
 grind
end
def Ld {u:PH}{v:Value}{T:zC}{R:List Br}{F:List Al}{lab:Int}{a:zP}{c:Nat}{L:List Dm}(hX:H5 u v T R F lab)(ok:Bl u T R F lab)(I:T.length<=8)(hL:Ac u (.slice a L.length c) 2 (L.map F3))(hW:WOK u T L)(hl:L.length<=12) :
 zF 11 [v,.slice a L.length c] u fun r Q=>Azl Q r (Cf F lab L) (255*L.length):=by
 have a0:=fun (Q:PH) (l:PH.le u Q)=>T2 (hX.mono l) (ok.mono l);obtain⟨xa,xc,xb,xd,xe,xf,rfl,aj,ai,ah⟩:=id hX;have ak:=Awp I;have K:∀ n,∀ y∈L.take n,Bw T y.1/\y.2.1<=7:=fun n y hy=>by
  obtain⟨_,q1,_,q2⟩:=hW y (A27 hy);exact⟨q1,q2⟩
 have h:∀ n,CFS (Cf F lab (L.take n)):=fun n=>(Aee ok I (K n) (by rw[A1e];omega)).1;refine Fn0.o func11<|G.c call45 (a0 u (PH.le_refl _)) ?_;rintro v1 u1 l1 rfl;refine G.nF 0 0<|G.gF L.length 2000<|G.callO _ _ kV call46 (Jm (n:=0) oV oV) ?_;intro v2 u2 m2 l2 k2 _;rw[By];have n0:(⟨((0:Int):Rat),fun _=>0,fun _=>0⟩:CF)=CF.num 0:=by rw[show ((0:Int):Rat)=0 by decide +kernel];rfl
 rw[n0]at k2;obtain⟨b,a2,n,c2,b',a',n',c',g1,g2,rfl⟩:=Oe k2;refine G.l (ι:=Nat×(Bool×SlI)×(Bool×SlI)×Nat×Nat) (fun i=>[(2,.p 0 0),(4,.p 1 0),(7,.p 6001 0),(22,sV a L.length c),(23,iV L.length),(24,iV i.1)])
  (fun i=>[(0,⟨30,[sV xa T.length xc,sV xb R.length xd,sV xe F.length xf,iV lab]⟩),(1,⟨38,[tV [],sN,sN]⟩),(6001,⟨108,[bV i.2.1.1,sV i.2.1.2.1 i.2.1.2.2.1 i.2.1.2.2.2,bV i.2.2.1.1,sV i.2.2.1.2.1 i.2.2.1.2.2.1 i.2.2.1.2.2.2,.v (.map (some i.2.2.2.1)),.v (.map (some i.2.2.2.2))]⟩)])
  (fun i Q m'=>i.1<=L.length/\Kk m' Q (.agg #[.bool i.2.1.1,.slice i.2.1.2.1 i.2.1.2.2.1 i.2.1.2.2.2,.bool i.2.2.1.1,.slice i.2.2.1.2.1 i.2.2.1.2.2.1 i.2.2.1.2.2.2,.map (some i.2.2.2.1),.map (some i.2.2.2.2)]) (Cf F lab (L.take i.1)) (255*i.1))
  (fun i=>L.length-i.1) (0,(b,a2,n,c2),(b',a',n',c'),g1,g2) ⟨oV,k2⟩ ?_
 rintro J ⟨i,⟨b,a2,n,c2⟩,⟨b',a',n',c'⟩,g1,g2⟩ hJ u3 m3 l3 ⟨hi,U⟩;simp only at hi U hJ;have E:=(l1.trans l2).trans l3;by_cases P:i<L.length
 ·refine G.lT i L.length ?_;obtain⟨y,t⟩:∃ y,L[i]?=some y:=⟨_,A01 P⟩;obtain⟨hS,hT,a3,C⟩:=hW y (A1k t);obtain⟨ba,oa,rfl,ea⟩:=Ac.at' (hL.mono E) (j:=i) (e:=F3 y) (by simp[t]);obtain⟨ss,w,ya,yc⟩:=y;simp only at hS hT a3 C;have a1:L.take (i+1)=L.take i++[(ss,w,ya,yc)]:=by rw[A1n,t];rfl
  have hP:Mv u (.agg #[.slice xa T.length xc,.slice xb R.length xd,.slice xe F.length xf,zI lab]) (.slice ya ss.length yc) T R F lab ss:=⟨hX,ok,hS,hT⟩;have a9:=hT.len;obtain⟨d1,d2⟩:=Apv ok hT;have sK:CFS ((cfT F lab ss).scale (w:Rat)):=(d1.scale (Auv C)).cfs oV oV;have m:Cf F lab (L.take (i+1))=(Cf F lab (L.take i)).add ((cfT F lab ss).scale (w:Rat)):=by rw[a1,Eb]
  refine G.N L.length c P ea<|G.c call47 (Anz (hP.mono E)) ?_;rintro v4 u4 l4 rfl;refine G.nF 0 0<|G.lF w (-1000000000000)<|G.gF w 1000000000000<|G.c call49 (Arh (hP.mono (E.trans l4)) oV) ?_;rintro v5 u5 l5 ⟨k5,sF⟩;obtain⟨b5,a5,n5,c5,ac,aa,al,ad,af,ag,rfl⟩:=Sw k5;refine G.c call22 (P6 (z:=(w:Int)) oV oV) ?_;intro v6 u6 l6 k6;rw[A2r]at k6;obtain⟨b6,a6,n6,c6,ab,am,ae,rfl,_⟩:=k6.opn;have a4:SB (w:Rat):=(Auv C).small oV oV;refine G.callA _ _ kV kV call48 (By m3).symm (Ef m3)
   (Ar1 (((U.grow l4).grow l5).grow l6) (k5.mono l6) k6 a4 (h i) sF sK (by rw[<-m];exact h (i+1))) ?_
  intro v7 u7 m7 l7 H _;rw[<-m]at H;rw[By];obtain⟨b7,a7,n7,c7,W,V,a8,X,Y,Z,rfl⟩:=Oe H;exact G.i i<|G.b (hJ (i+1,(b7,a7,n7,c7),(W,V,a8,X),Y,Z) _ _ _ cV ((((l3.trans l4).trans l5).trans l6).trans l7) ⟨dV,H.congr rfl dV⟩ dV)
 obtain rfl:i=L.length:=oV;refine G.lF L.length L.length ?_;have hc:=h L.length;rw[A15]at U hc;refine G.callK _ _ kV call50 (Aod U.i hc oV) ?_;rintro v7 u7 l7 ⟨r,rfl,H⟩;obtain⟨e1,f1,h1,e2,f2,h2,rfl⟩:=H.opn;exact G.drop PH.mt kV (PH.mt_le _)<|G.r (.tuple #[.agg #[zS (Ae (Cf F lab L).c),.slice e1 f1 h1,.slice e2 f2 h2],zO]) ⟨rfl,_,rfl,H⟩
def Ahv {u:PH}(ht:Hx u):zF 8 [] u fun r _=>r=zT:=by
 refine Fn0.o func8<|G.buildU 96 2 24 (.agg #[zE,zO]) [.agg #[zS [120],zI (2:Nat)],.agg #[zS [121],zI (2:Nat)]] kV (fun x J=>by
  simp only[A1g,A11,or_false]at J;rcases J with rfl|rfl<;>exact⟨rfl,A1o.1 rfl⟩) rfl oV mV mV ?_
 intro g1 u1 l1 e1;refine G.B 3 1 8 zO [zI (0:Nat),zI (1:Nat)] (Av [0,1]) ?_;intro g2 u2 l2 e2;refine G.buildU 98 2 40 (.agg #[zE,zN]) [.agg #[zS [114],zG g2 2 2]] kV (fun x J=>by
  simp only[A1g,A11,or_false]at J;subst J;exact⟨rfl,A1o.1 rfl⟩) rfl oV mV mV ?_
 intro g3 u3 l3 e3;refine G.buildU 100 3 24 (.agg #[zO,zO,zO]) [.agg #[zI (0:Nat),zI (1:Nat),zI (0:Nat)]] kV (fun x J=>by
  simp only[A1g,A11,or_false]at J;subst J;exact⟨rfl,A1o.1 rfl⟩) rfl oV mV mV ?_
 intro g4 u4 l4 e4;have hX:H5 u4 (.agg #[zG g1 2 2,zG g3 1 1,zG g4 1 1,zI 1]) Vi (Zt g2) Jc ((1:Nat):Int) :=
  ⟨_,_,_,_,_,_,rfl,e1.listP.mono ((l2.trans l3).trans l4),e3.listP.mono l4,e4.listP⟩
 have j:Bl u4 Vi (Zt g2) Jc ((1:Nat):Int):=Azf (e2.listP.mono (l3.trans l4));have ar:=ht.mono (((l1.trans l2).trans l3).trans l4);clear e1 e2 e3 e4;refine G.B 9 1 16 zE [zS [49],zS [50]] (G6 [[49],[50]]) ?_;intro U u5 l5 e5;refine G.buildU 53 2 32 (.agg #[zN,zO]) [.agg #[zG U 2 2,zI 1]] kV (fun x J=>by
  simp only[A1g,A11,or_false]at J;subst J;exact⟨rfl,A1o.1 rfl⟩) rfl oV mV mV ?_
 intro g6 u6 l6 e6;have hW:WOK u6 Vi (Qr U):=fun y hy=>by
  have:y=([[49],[50]],1,(some ⟨U,0,none⟩,2)):=by simpa[Qr] using hy
  subst this;exact⟨e5.listP.mono l6,Ajf,A08 1,by show 1<=7;omega⟩
 have a8:=l5.trans l6;refine G.c call11 (Ld (hX.mono a8) (j.mono a8) fV (show Ac u6 (zG g6 (Qr U).length 1) 2 ((Qr U).map F3) from e6.listP) hW (by simp[Qr])) ?_;rintro v7 u7 l7 ⟨x7,rfl,k7⟩;have a9:=a8.trans l7;obtain⟨k,a3⟩:=Ajm (P:=Ad2) (hX.mono a9) (j.mono a9) fV hW.tup (by simp[Qr]) k7 (by simp[Qr]) (Ai2 _) fV oV;have aa:=hW.tup;obtain⟨a1,n1,c1,a2,n2,c2,rfl⟩:=k7.opn;refine G.B 9 1 16 zE [zS [49],zS [50]] (G6 [[49],[50]]) ?_;intro V u8 l8 e8;refine G.B 9 1 16 zE [zS [48],zS [52]] (G6 [[48],[52]]) ?_;intro W u9 l9 e9;refine G.buildU 53 2 32 (.agg #[zN,zO]) [.agg #[zG V 2 2,zI 1],.agg #[zG W 2 2,zI 1]] kV (fun x J=>by
  simp only[A1g,A11,or_false]at J;rcases J with rfl|rfl<;>exact⟨rfl,A1o.1 rfl⟩) rfl oV mV mV ?_
 intro aq an a6 ao;have a4:WOK an Vi (Ml V W):=fun y hy=>by
  simp only[Ml,A1g,A11,or_false]at hy;rcases hy with rfl|rfl
  ·exact⟨e8.listP.mono (l9.trans a6),Ajf,A08 1,by show 1<=7;omega⟩
  exact⟨e9.listP.mono a6,Abn,A08 1,by show 1<=7;omega⟩
 have a0:=(l8.trans l9).trans a6;have T:=a9.trans a0;refine G.c call11 (Ld (hX.mono T) (j.mono T) fV (show Ac an (zG aq (Ml V W).length 2) 2 ((Ml V W).map F3) from ao.listP) a4 (by simp[Ml])) ?_;rintro bm bd ai ⟨bu,rfl,a5⟩;have m:=T.trans ai;obtain⟨k',L⟩:=Ajm (P:=Ad2) (hX.mono m) (j.mono m) fV a4.tup (by simp[Ml]) a5 (by simp[Ml]) (Ai2 _) fV oV;have ab:=a4.tup;obtain⟨b1,m1,d1,b2,m2,d2,rfl⟩:=a5.opn;have hC:=Vx (P:=Ad2) j aa (by simp[Qr]) (Azq j U);have K:=Vx (P:=Ad2) j ab (by simp[Ml]) (Azp j V W);have hp:Td Jc Ad2 1:=Al6 (Ai2 (CF.num 0)) Ws fV;have ac:=L0 j j.l1 (Iz j) aa;have Y:=L0 j j.l1 (Iz j) ab;have H:Cf Jc ((1:Nat):Int) (Ml V W)=(Cf Jc ((1:Nat):Int) (Qr U)).add ((cfT Jc ((1:Nat):Int) [[48],[52]]).scale ((1:Int):Rat)):=Apl V W U;have b7:(Qr U).length=1:=rfl;have b8:(Ml V W).length=2:=rfl;generalize Cf Jc ((1:Nat):Int) (Qr U)=C at a3 hC H ac k7;generalize Cf Jc ((1:Nat):Int) (Ml V W)=C' at L K H Y a5;have am:=a0.trans ai;have I:=ar.mono m;have ad:=Aaz I (a3.mono am) Ws ac oV hC.psd;rw[Sv]at ad;refine G.c call13 ad ?_;rintro bn be aj au;rcases au with ⟨e,h,_⟩|⟨_,_,sv,X,b,s,c,rfl,kS,kN⟩
 ·exfalso;rcases h with ⟨h,_⟩|⟨_,_,h⟩
  ·have:=a3.mom.c;rw[h]at this;have h2:=hC.pos;rw[this]at h2;exact absurd h2 jV
  exact absurd h fV
 obtain⟨pa,pc,xa,xc,ra,rc,rfl,_⟩:=id kS;refine G.B 9 1 16 zE [zS [48],zS [52]] (G6 [[48],[52]]) ?_;intro b6 bf a7 ap;have E:=aj.trans a7;have Z:=m.trans E;have af:=Sg (w:=1) (I.mono E) (ss:=[[48],[52]]) ⟨hX.mono Z,j.mono Z,ap.listP,Abn⟩ (.inr Ays) (kS.mono a7) kN hp fV hC (by rw[<-H];exact K) fV oV oV oV;rw[<-H]at af;refine G.c call15 af ?_;rintro bo bg ak ⟨ba,X2,b4,s2,b5,rfl,ag,aw⟩;obtain⟨qa,qc,ya,yc,sa,sc,rfl,_⟩:=id ag;have Q:=E.trans ak;have ae:=Aaz (I.mono Q) (L.mono Q) Ws Y oV K.psd;rw[Sv]at ae;refine G.c call13 ae ?_;rintro bp bh al av;rcases av with ⟨e,h,_⟩|⟨_,_,bb,X3,b3,s3,c3,rfl,ah,ax⟩
 ·exfalso;rcases h with ⟨h,_⟩|⟨_,_,h⟩
  ·have:=L.mom.c;rw[h]at this;have h2:=K.pos;rw[this]at h2;exact absurd h2 jV
  exact absurd h fV
 obtain⟨za,zc,wa,wc,va,vc,rfl,_⟩:=id ah;refine G.eT' 0 0 rfl<|G.eT' 0 0 rfl<|G.eT' 0 0 rfl<|G.c call20 (T9 (ag.mono al) ah aw ax hp K) ?_;rintro bq bi ay rfl;refine G.c call39 (Vb (p:=3) (t:=2) oV oV) ?_;rintro br bj az rfl;refine G.c call39 (Vb (p:=3) (t:=3) oV oV) ?_;rintro bs bk b0 rfl;have R:=((((a7.trans ak).trans al).trans ay).trans az).trans b0;have F:=aj.trans R;refine G.c call43 (Anl (I.mono F) (hX.mono (m.trans F)) (j.mono (m.trans F)) (kS.mono R) kN hp hC fV) ?_;rintro bt bl b9 rfl;exact G.z zT
structure Atg (u:PH)(T:zC)(R:List Br)(F:List Al)(lab:Int)(L:List Dm)(xv lv:Value):Prop where
 sch:H5 u xv T R F lab
 ok:Bl u T R F lab
 t8:T.length<=8
 lab0:0<=lab
 f0:F≠[]
 f4:F.length<=4
 rows:Ac u lv 2 (L.map F3)
 wok:WOK u T L
 w9:W9 T L
 l6:L.length<=6
def Aul {u:PH}{s:Src}{ts:List Int}{k:Nat}(h:J0 u s ts)(Z:k<=s.n) :
 Ag prog 10 [s.ptr] u (s.M k) fun r u' m'=>∃ (T:zC) (R:List Br) (F:List Al) (lab:Int) (L:List Dm) (Q P:Value) (K:Nat),r=.tuple #[Q,P]/\Atg u' T R F lab L Q P/\K<=s.n/\m'=s.M K:=by
 letI:Pu:=⟨true⟩
 refine Ag.o func10<|G.callP _ _ kV rfl call44 (By _).symm (Ef _) (Ace 4 oV oV h Z) ?_;rintro v1 u1 m1 l1 ⟨T,R,F,lab,k1,H,ok,E,e,j,I,rfl,m⟩ _;rw[By];obtain⟨xa,xc,xb,xd,xe,xf,rfl,X,W,V⟩:=id H;refine G.callP _ _ kV rfl call35 (By _).symm (Ef _) (Ajh (most:=6) (h.mono l1) I H ok oV) ?_;rintro v2 u2 m2 l2 ⟨L,k2,t,C,Y,U,J,rfl⟩ _;rw[By];obtain⟨la,lc,rfl⟩:=t.opn;rw[A03]at t⊢;exact G.r (.tuple #[.agg #[.slice xa T.length xc,.slice xb R.length xd,.slice xe F.length xf,zI lab],.slice la L.length lc])
  ⟨T,R,F,lab,L,_,_,k2,rfl,⟨H.mono l2,ok.mono l2,E,e,j,m,t,Y,U,C⟩,J,rfl⟩
section
def A0s {u:PH}{j:Value}{T:zC}{F:List Al}{lab:Int}{C:CF}{K:Nat}(m:No u j C K)(hF:Da T F lab):∃ P,Nn F C P:=by
 obtain⟨A,Q,a1,c1,a2,c2,rfl,H,I,h,E,J,U⟩:=m;exact⟨He F A F.length,Tu h.srt _,fun p=>Aed h fun f t=>by
  obtain⟨n,k,_,e,_⟩:=hF.ok f t;rcases e with ⟨e,_⟩|⟨e,_⟩
  ·exact .inl e
  exact .inr e⟩
section
variable {u:PH} {T:zC} {R:List Br} {F:List Al} {lab:Int} {L L':List Dm} {P:List Par}
def Axm (ok:Bl u T R F lab)(hT:∀ y∈L,Bw T y.1)(h:∀ y∈L,G4 F lab y.1=false):(Cf F lab L).c=0:=by
 induction L using Ig with
 |h0=>rfl
 |h1 L y ih =>
  rw[Eb,Als (Awu ok (hT y mV) (h y mV))];exact ih (fun z e=>hT z (A24 _ e)) (fun z e=>h z (A24 _ e))
def Ala {l:Nat}(ok:Bl u T R F (l:Int))(hT:∀ y∈L,Bw T y.1/\1<=y.2.1)(e:Nn F (Cf F (l:Int) L) P){y:Dm}(m:y∈L):Aqi F l P y.1:=by
 cases h:G4 F (l:Int) y.1 with
 |false=>exact .inl h
 |true=>exact .inr ⟨h,fun x j=>Aln ok hT m h e.2 j⟩
def Axy (ok:Bl u T R F lab)(hT:∀ y∈L,Bw T y.1/\1<=y.2.1)(hF:F≠[])(I:(Cf F lab L).c≠0)(E:Nn F (Cf F lab L) P):P≠[]:=by
 obtain⟨f,h,rfl⟩:∃ f h,F=f::h:=by
  cases F with
  |nil=>exact absurd rfl hF
  |cons f h=>exact⟨f,h,rfl⟩
 have H:(f::h)[0]?=some f:=rfl;obtain⟨n,k,_,j,_⟩:=ok.feat.ok f mV;have m:f.2.1=1\/f.2.1=2:=by
  rcases j with ⟨j,_⟩|⟨j,_⟩
  ·exact .inl j
  exact .inr j
 rcases m with m|m
 ·exact List.ne_nil_of_mem ((E.2 _).2 (.inl ⟨0,f,rfl,H,m⟩))
 obtain⟨y,t,C⟩:∃ y∈L,G4 (f::h) lab y.1=true:=A3m fun J=>I (Axm ok (fun y t=>(hT y t).1) fun y t=>by
  cases e:G4 (f::h) lab y.1 with
  |false=>rfl
  |true=>exact absurd ⟨y,t,e⟩ J)
 have K:Jf y.1 0 f=some ((((0:Nat):Int),y.1.getD f.1 []),1):=by unfold Jf;rw[if_pos m]
 exact List.ne_nil_of_mem (Aln ok hT t C E.2 (F9.2 ⟨0,f,mV,H,K⟩))
theorem Apu (ok:Bl u T R F lab)(hT:∀ y∈L++L',Bw T y.1/\y.2.1<=7)(e:(L++L').length<=13)(m:0<(Cf F lab L).c):Ug P (Cf F lab (L++L')):=by
 refine Vx ok hT e ?_;rw[Api];obtain⟨k,h,_⟩:=Arb ok.feat ok.l1 (Iz ok) (L:=L') fun y j=>hT y (A6v _ j);show 0<(Cf F lab L).c+(Cf F lab L').c;rw[h];have:(0:Rat)<=(k:Rat):=by exact_mod_cast A1t k
 grind
end
end
def Asa:∀ L:List Dm,A9 2 (L.map F3):=fun L e h=>by
 obtain⟨y,_,rfl⟩:=A1b.1 h;exact Yi y _ mV
def Anp {P:List Par}{k:Nat}{e:Int}(h:k=0/\e=12\/e=3/\k≠0/\11<P.length):e≠0:=by
 rcases h with ⟨_,rfl⟩|⟨rfl,_⟩<;>decide
section
variable {w:World}
variable [Cl] [Co]
section
variable {P:Program} [A6 P] {fn:Func} {Post:Ce} {st:List KI×S} {u m:PH}
def PH.or_le {x y z:PH}(h:PH.le x z)(j:PH.le y z):PH.le (x.or y) z:=fun g o e=>by
 cases hx:x g with
 |none=>rw[PH.or_r hx]at e;exact j g o e
 |some p=>rw[PH.or_l hx]at e;cases e;exact h g _ hx
def Bv.both (h:Bv u m w):PH.le u (m.or u)/\Bv (m.or u) PH.mt w:=by
 have C:PH.le u (m.or u):=fun g o e=>by
  cases hx:m g with
  |none=>rw[PH.or_r hx];exact e
  |some p=>have:=(h.ap g).resolve_right (by rw[hx];simp);rw[this]at e;cases e
 refine⟨C,⟨fun g o e=>?_,Fj.mt w,fun _=>.inr rfl,fun g cs t fr j z e E=>C g _ (h.cl g cs t fr j z e E)⟩⟩;cases hx:m g with
 |none=>rw[PH.or_r hx]at e;exact h.pu g o e
 |some p=>rw[PH.or_l hx]at e;cases e;exact h.pm g _ hx
def Bv.apart {w w':World}{C:PH}(h:Bv u m w)(g:Bv C PH.mt w')(E:B0 (m.or u) PH.mt w C PH.mt w'):∃ H,m.or H=C/\Bv H m w'/\B0 u m w H m w':=by
 have F:∀ b o,m b=some o->C b=some o:=fun b o e=>by
  rw[E.us b (h.pm.lt e)];exact PH.or_l e
 refine⟨fun b=>if (m b).isNone then C b else none,?_,⟨fun b o e=>?_,fun b o e=>?_,fun b=>?_,fun b cs t fr j z e L=>?_⟩,⟨E.sz,fun b e _=>E.old b e rfl,fun b e=>?_,fun b _ e=>e,E.io,E.dr⟩⟩
 ·funext b
  cases hx:m b with
  |none=>rw[PH.or_r hx];simp[hx]
  |some p=>rw[PH.or_l hx,F b p hx]
 ·have e:(if (m b).isNone then C b else none)=some o:=e;split at e
  ·exact g.pu b o e
  cases e
 ·exact g.pu b o (F b o e)
 ·cases hx:m b with
  |none=>exact .inr rfl
  |some p=>left;simp[hx]
 ·have I:=g.cl b cs t fr j z e L;cases hx:m b with
  |none=>simp[hx,I]
  |some p =>
   have J:=F b p hx;rw[I]at J;cases J;have K:=h.cl b cs t fr j z (h.pm b _ hx) L;have:=(h.ap b).resolve_right (by rw[hx];simp);rw[this]at K;cases K
 show (if (m b).isNone then C b else none)=u b;cases hx:m b with
 |none=>simp only[Option.isNone_none,if_true];rw[E.us b e,PH.or_r hx]
 |some p=>simp only[Option.isNone_some,A4z,if_false];exact ((h.ap b).resolve_right (by rw[hx];simp)).symm
def G.callJ (f:Nat)(args:zV){R:Value->PH->Prop}(h:Aj P (adv P st)=.call f args)(X:∀ args w,(callFunc f args).run P w=.ok (.enter f args) w)(c:PH.le u (m.or u)->PH.le m (m.or u)->Fn0 P f args (m.or u) R)
 (k:∀ v j,PH.le u j->R v (m.or j)->G P fn Post (nx (adv P st) v) j m):G P fn Post st u m:=by
 refine G.big (K:=fun v j E=>E=m/\R v (m.or j)) h mV Dv (.inl fun v j E V=>by rw[V.1];exact PH.le_refl _) (fun L o C w t=>?_) (fun v j E T U=>?_)
 ·refine Hq C X w _ (Calls.mono (c t.both.1 (fun g o Z=>PH.or_l Z) w t.both.2) fun e w' Y=>?_);obtain⟨v,a0,E,F,H,I,rfl,J⟩:=Y;obtain⟨j,Q,g1,g2⟩:=t.apart H I;exact⟨v,F,j,m,g1,g2,rfl,by rw[Q];exact J⟩
 obtain⟨rfl,W⟩:=U;exact k v j T W
end
end
section
def Bf4 {u:PH}{T:zC}{R:List Br}{F:List Al}{l:Nat}{L E:List Dm}{P:List Par}(ok:Bl u T R F (l:Int))(hT:∀ y∈L++E,Bw T y.1/\1<=y.2.1)(K:∀ y∈E,Aqi F l P y.1)(H:Nn F (Cf F (l:Int) L) P):Nn F (Cf F (l:Int) (L++E)) P:=by
 refine⟨H.1,fun p=>(H.2 p).trans ?_⟩;constructor
 ·rintro (h1|⟨hne,i,f,h1,hf,h2⟩)
  ·exact .inl h1
  obtain⟨a,U,m⟩:=f;obtain⟨V,h⟩:=p;simp only at h1 h2;subst h1 h2;obtain⟨y,e,j,t⟩:=(Be9 ok (fun y e=>hT y (A24 _ e)) hf h).1 hne;exact .inr ⟨(Be9 ok hT hf h).2 ⟨y,A24 _ e,j,t⟩,i,_,rfl,hf,rfl⟩
 rintro (h1|⟨hne,i,f,h1,hf,h2⟩)
 ·exact .inl h1
 obtain⟨a,U,m⟩:=f;obtain⟨V,h⟩:=p;simp only at h1 h2;subst h1 h2;obtain⟨y,e,j,t⟩:=(Be9 ok hT hf h).1 hne;rcases A1h.1 e with e|e
 ·exact .inr ⟨(Be9 ok (fun y e=>hT y (A24 _ e)) hf h).2 ⟨y,e,j,t⟩,i,_,rfl,hf,rfl⟩
 have I:=(K y e).resolve_left (by rw[j];simp);have J:=(A05.1 hf).1;have Q:Jf y.1 i (a,2,m)=some (((i:Int),y.1.getD a []),1):=by unfold Jf;rw[if_pos rfl]
 have:=I.has _ (F9.2 ⟨i,_,J,hf,Q⟩);rw[t]at this;exact (H.2 _).1 this
section
variable {u:PH} {zv tv sv lv:Value} {T:zC} {R:List Br} {F:List Al} {l:Nat} {ss:zW} {P:List Par} {X:zM} {b:zR} {s c q:Rat} {w:Int} {C:CF} {L:List Dm}
variable {pa xa ra a1 a2 a3:zP} {pc xc rc c1 c2 c3:Nat}
def Bf5 (h:¬ Aqi F l P ss):G4 F (l:Int) ss=true/\∃ x∈Dx F ss F.length,x.1∉P:=by
 have j:G4 F (l:Int) ss=true:=by
  cases e:G4 F (l:Int) ss with
  |true=>rfl
  |false=>exact absurd (.inl e) h
 exact⟨j,A3m fun m=>h (.inr ⟨j,fun x t=>A3m fun hp=>m ⟨x,t,hp⟩⟩)⟩
def Bfm (h:Mv u (.agg #[.slice a1 T.length c1,.slice a2 R.length c2,.slice a3 F.length c3,zI l]) tv T R F (l:Int) ss)(W:¬ Aqi F l P ss)(V:Ac u (.slice pa P.length pc) 2 (P.map Ap))(Z:Hb Bk P)(Y:P.length<=100000)(J:w≠0)(a0:-1000000000000<=w)(a4:w<=1000000000000){n n':Nat} :
 zF 68 [.agg #[.slice pa P.length pc,.slice xa n xc,.slice ra n' rc,zS (Ae s),zS (Ae c),zS (Ae q),.slice a1 T.length c1,.slice a2 R.length c2,.slice a3 F.length c3,zI l],tv,zI w] u fun r _=>r=.tuple #[zN,zL,zI 16]:=by
 obtain⟨t,j⟩:=Bf5 W;have I:=Lm h;have E:=fun (m:PH) (e:PH.le u m)=>Yv (h.mono e);have H:=fun (m:PH) (e:PH.le u m)=>Fn0.weak (Bfx (h.mono e) (V.mono e) Z Y) fun r m h=>(h.resolve_left fun⟨K,_⟩=>by
  obtain⟨x,Q,U⟩:=j;exact U (K x Q)).2
 refine Fn0.o func68<|G.c call89 I ?_;rintro v1 u1 e rfl;refine G.nF 0 0<|G.eF' w 0 J<|G.lF w (-1000000000000)<|G.gF w 1000000000000<|G.c call90 (E u1 e) ?_;rintro v2 u2 l2 rfl;rw[t];refine G.lF l 0<|G.c call140 (H u2 (e.trans l2)) ?_;rintro v3 u3 l3 rfl;exact G.nT 16 0<|G.z (.tuple #[zN,zL,zI 16])
def Bfy (h:Mv u zv tv T R F (l:Int) ss)(J:¬ Aqi F l P ss)(I:Ma u sv P X b s c q)(Q:Hb Bk P)(K:P.length<=100000)(m:w≠0)(t:-1000000000000<=w)(E:w<=1000000000000) :
 zF 15 [zv,sv,tv,zI w] u fun r _=>r=.tuple #[Axc,zI 16]:=by
 obtain⟨⟨a1,c1,a2,c2,a3,c3,rfl,_⟩,_⟩:=id h;obtain⟨pa,pc,xa,xc,ra,rc,rfl,H,_⟩:=id I;have e:=Bfm (xa:=xa) (xc:=xc) (ra:=ra) (rc:=rc) (s:=s) (c:=c) (q:=q) (n:=X.length) (n':=b.length) h J H Q K m t E;have j:zF 57 [.agg #[.slice pa P.length pc,.slice xa X.length xc,.slice ra b.length rc,zS (Ae s),zS (Ae c),zS (Ae q),.slice a1 T.length c1,.slice a2 R.length c2,.slice a3 F.length c3,zI l],tv,zI w] u fun r _=>r=.tuple #[Axc,zI 16]:=by
  refine Fn0.o func57<|G.c call68 e ?_;rintro W V U rfl;exact G.nT 16 0<|G.z (.tuple #[Axc,zI 16])
 refine Fn0.o func15<|G.c call57 j ?_;rintro W V U rfl;exact G.z (.tuple #[Axc,zI 16])
def Bf2 (ht:Hx u)(hX:H5 u zv T R F (l:Int))(ok:Bl u T R F (l:Int))(hL:Ac u lv 2 (L.map F3))(hW:WOK u T L)(I:Ma u sv P X b s c q)(H:H9 P C q X b s c)(hp:Td F P q)(Z:P≠[])
 (hC:∀ n,n<=L.length->Ug P (Oo F (l:Int) C (L.take n))) (h5:P.length<=5) (hl:L.length<=1000) :
 zF 34 [zv,sv,lv] u fun r u'=>(∀ y∈L,Aqi F l P y.1)/\(∃ U X' b' s' c',r=.tuple #[U,zO]/\Ma u' U P X' b' s' c' q/\H9 P (Oo F (l:Int) C L) q X' b' s' c')\/(∃ y∈L,¬ Aqi F l P y.1)/\r=.tuple #[Axc,zI 16]:=by
 have hB:=H.okF hp (hC 0 (A1t _));have m:=hB.n;have t:=hB.bn;have Y:=Af7 I Z hB oV;obtain⟨a1,c1,a2,c2,a3,c3,rfl,_⟩:=id hX;obtain⟨pa,pc,xa,xc,ra,rc,rfl,_⟩:=id I;obtain⟨la,lc,rfl⟩:=hL.opn;rw[A03]at hL⊢;refine Fn0.o func34<|G.c call86 Y ?_;rintro v1 u1 l1 k1;obtain⟨qa,qc,ya,yc,sa,sc,rfl,_⟩:=id k1;rw[m,t]at k1⊢;refine G.l (ι:=SI) (fun i=>[(3,.p 0 0),(4,.p 1 0),(6,.p 2 0),(14,sV la L.length lc),(15,iV L.length),(16,iV i.i)])
  (fun i=>[(0,⟨30,[sV a1 T.length c1,sV a2 R.length c2,sV a3 F.length c3,iV l]⟩),(1,⟨48,[sV i.pa P.length i.pc,sV i.xa (P.length+1) i.xc,sV i.ra (P.length+1) i.rc,tV (Ae i.s),tV (Ae i.c),tV (Ae q)]⟩),
   (2,⟨48,[.v zN,.v zN,.v zN,.v zE,.v zE,.v zE]⟩)])
  (fun i u' m'=>i.i<=L.length/\(∀ y∈L.take i.i,Aqi F l P y.1)/\(∃ X b,Ma u' (.agg #[.slice i.pa P.length i.pc,.slice i.xa (P.length+1) i.xc,.slice i.ra (P.length+1) i.rc,zS (Ae i.s),zS (Ae i.c),zS (Ae q)]) P X b i.s i.c q/\H9 P (Oo F (l:Int) C (L.take i.i)) q X b i.s i.c)/\m'=PH.mt) (fun i=>L.length-i.i)
  ⟨0,qa,qc,ya,yc,sa,sc,s,c⟩ ⟨dV,fun y Q=>by simp at Q,⟨X,b,k1,H⟩,rfl⟩ ?_
 clear k1 H I Y hB m t;rintro J ⟨i,pa,pc,xa,xc,ra,rc,s,c⟩ hJ u2 m2 l2 ⟨hi,hk,⟨X,b,I,H⟩,rfl⟩;simp only at hi hk I H hJ;have h:=l1.trans l2;by_cases K:i<L.length
 ·refine G.lT i L.length ?_;obtain⟨y,Q⟩:∃ y,L[i]?=some y:=⟨_,A01 K⟩;have a4:=A1k Q;obtain⟨a0,a5,a8,a9⟩:=hW y a4;obtain⟨bl,ol,rfl,e1⟩:=Ac.at' (hL.mono h) (j:=i) (e:=F3 y) (by simp[Q]);have W:=hC (i+1) oV;rw[Wh Q]at W;have a7:L.take (i+1)=L.take i++[y]:=by rw[A1n,Q];rfl
  by_cases E:Aqi F l P y.1
  case neg =>
   refine G.N L.length lc K e1<|G.c call15 (Bfy (w:=(y.2.1:Int)) ⟨hX.mono h,ok.mono h,a0.mono h,a5⟩ E I hp.srt oV oV oV oV) ?_;rintro v3 u3 l3 rfl;exact G.nT 16 0<|G.r (.tuple #[Axc,zI 16]) ⟨rfl,.inr ⟨⟨y,a4,E⟩,rfl⟩⟩
  have a6:=Sg (w:=(y.2.1:Int)) (ht.mono h) ⟨hX.mono h,ok.mono h,a0.mono h,a5⟩ E I H hp Z (hC i oV) (by rw[A2r];exact W) h5 oV oV oV;refine G.N L.length lc K e1<|G.c call15 a6 ?_;rintro v3 u3 l3 ⟨U,X',b',s',c',rfl,k3,n3⟩;rw[A2r,<-Wh Q]at n3;have V:=n3.okF hp (hC (i+1) oV);have m:=V.n;have t:=V.bn;obtain⟨qa,qc,ya,yc,sa,sc,rfl,_⟩:=id k3;rw[m,t]at k3⊢;refine G.nF 0 0<|G.i i ?_;exact G.b (hJ ⟨i+1,qa,qc,ya,yc,sa,sc,s',c'⟩ _ _ _ cV (l2.trans l3) ⟨dV,fun z hz=>by
   dsimp only at hz;rw[a7]at hz;exact (A1h.1 hz).elim (hk z) fun e=>by rw[A12.1 e];exact E,⟨X',b',k3,n3⟩,rfl⟩ dV)
 obtain rfl:i=L.length:=oV;refine G.lF L.length L.length ?_;rw[A15]at H hk;exact G.r (.tuple #[.agg #[.slice pa P.length pc,.slice xa (P.length+1) xc,.slice ra (P.length+1) rc,zS (Ae s),zS (Ae c),zS (Ae q)],zO]) ⟨rfl,.inl ⟨hk,_,X,b,s,c,rfl,I,H⟩⟩
end
end
end Go.Proofs.YtemmheaocgmebaaGreatDoor
