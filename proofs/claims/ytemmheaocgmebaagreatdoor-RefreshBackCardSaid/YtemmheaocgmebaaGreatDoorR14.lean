/- Parts of one proof, joined by a program. -/
import Derived.Test.YtemmheaocgmebaaGreatDoorR13
set_option linter.defProp false
set_option linter.unusedVariables false
set_option linter.unusedSimpArgs false
set_option linter.unusedSectionVars false
set_option maxHeartbeats 16000000
namespace Go.Proofs.YtemmheaocgmebaaGreatDoor
open Go.Proofs.Tryz
open Go.RowKit Go.MapKept
section
variable {ts:List (List UInt8)}{v:Value}
def At2 {u:PH}{q:Rat}(h:Tx q):Fn0 prog 228 [.string (mkS (Ae q))] u fun v _=>v=.bool false:=by
 refine Fn0.o func228<|G.c call169 (Gu h) ?_;rintro j g e rfl;exact G.r (.bool false) ⟨rfl,rfl⟩
def Ue {u:PH}(h:Cj u v ts)(hT:∀ t∈ts,∃ q,t=Ae q/\Tx q)(j:ts.length<=1000):Fn0 prog 177 [v] u fun r _=>r=.bool true:=by
 obtain⟨a,c,rfl⟩:=Ac.opn h;refine Fn0.o func177<|G.c call167 (Lc (fid:=228) h oV call228 (fun t g m _=>?_)) ?_
 ·obtain⟨q,rfl,e⟩:=hT t g;exact At2 e
 rintro C z l2 rfl;exact G.r (.bool true) ⟨rfl,rfl⟩
def Arw {e:List Rat}(h:∀ q∈e,Tx q):∀ t∈e.map Ae,∃ q,t=Ae q/\Tx q:=fun t j=>by
 obtain⟨q,g,rfl⟩:=A1b.1 j;exact⟨q,rfl,h q g⟩
def At4 {u:PH}(h:Cj u v ts)(hT:∀ t∈ts,∃ q,t=Ae q/\Tx q)(e:ts.length<=1000):Fn0 prog 178 [v] u fun r _=>r=.bool false:=by
 have g:=Ue h hT e;obtain⟨a,c,rfl⟩:=Ac.opn h;refine Fn0.o func178<|G.c call177 g ?_;rintro z m j rfl;exact G.r (.bool false) ⟨rfl,rfl⟩
def Amc {u:PH}{g n:Nat}(h:Cj u v ts)(j:ts.length=n)(e:u g=some (.cells #[.int .i64 n] 3 (0,0))):Fn0 prog 176 [v,.pointer (some ⟨g,0,none⟩)] u fun r _=>r=.bool false:=by
 obtain⟨a,c,rfl⟩:=Ac.opn h;rw[Cb,j];exact Fn0.o func176<|G.lU none g 0 (.int .i64 n) (Po e (G2 rfl rfl))<|G.nF n n<|G.r (.bool false) ⟨rfl,rfl⟩
section
variable {u:PH} {pa xa ra a1 a2 a3:Option Addr} {n pc xc rc n1 c1 n2 c2 n3 c3:Nat} {lab:Int} {X:List (List Rat)} {b:List Rat} {s c q:Rat}
def stV (pa:Option Addr)(n pc:Nat)(xa:Option Addr)(xc:Nat)(ra:Option Addr)(rc:Nat)(s c q:Rat)(a1:Option Addr)(n1 c1:Nat)(a2:Option Addr)(n2 c2:Nat)(a3:Option Addr)(n3 c3:Nat)(lab:Int):Value :=
 .agg #[.slice pa n pc,.slice xa (n+1) xc,.slice ra (n+1) rc,.string (mkS (Ae s)),.string (mkS (Ae c)),.string (mkS (Ae q)),.slice a1 n1 c1,.slice a2 n2 c2,.slice a3 n3 c3,.int .i64 lab]
def Xy (C:C7 u (.slice xa (n+1) xc) (Cv X))(t:X.length=n+1)(H:∀ r∈X,r.length=n+1)(K:n<=1000) :
 Fn0 prog 100 [stV pa n pc xa xc ra rc s c q a1 n1 c1 a2 n2 c2 a3 n3 c3 lab] u fun r _=>r=.bool true:=by
 refine Fn0.o func100<|G.i n<|G.pub 1005 3 [.int .i64 (n+1:Nat)] kV kV ?_;intro g E F;generalize e:PH.mt.upd g _=mm;have z:mm g=some (.cells #[.int .i64 (n+1:Nat)] 3 (0,0)):=by rw[<-e,Ab]
 clear e;refine G.giveP (ma:=mm) (sm:=PH.mt) kV (by funext g;unfold PH.or;cases mm g<;>rfl) (fun g=>.inr rfl) (fun g=>.inl rfl) ?_
 intro O l2 j;have h:=j _ _ z;refine G.lU none g 0 (.int .i64 (n+1:Nat)) (Po h (G2 rfl rfl))<|G.eT' (n+1:Nat) (n+1:Nat) rfl<|G.lU none g 0 (.int .i64 (n+1:Nat)) (Po h (G2 rfl rfl))<|G.eT' (n+1:Nat) (n+1:Nat) rfl<|G.c call175 (Gd (fid:=176) (cap:=[.pointer (some ⟨g,0,none⟩)]) (C.mono l2) (by rw[A3];omega) call176 (fun r m N x t I=>?_)) ?_
 ·obtain⟨y,J,rfl⟩:=Mg m;exact Amc I (by rw[A03,H y J]) (t _ _ h)
 rintro Q P L rfl;exact G.r (.bool true) ⟨rfl,rfl⟩
def Uw (H:C7 u (.slice xa (n+1) xc) (Cv X))(E:Cj u (.slice ra (n+1) rc) (b.map Ae))(N:X.length=n+1)(P:∀ r∈X,r.length=n+1)(J:b.length=n+1)(hT:∀ r∈X,∀ x∈r,Tx x)(I:∀ x∈b,Tx x)(Q:Tx s)(K:Tx c)(O:Tx q)(W:n<=900) :
 Fn0 prog 101 [stV pa n pc xa xc ra rc s c q a1 n1 c1 a2 n2 c2 a3 n3 c3 lab] u fun r _=>r=.bool true:=by
 refine Fn0.o func101<|G.c call177 (Ue E (Arw I) (by rw[A03];omega)) ?_;rintro v1 u1 T rfl;refine G.buildU 34 1 16 (.string (mkS [])) (Cc [Ae s,Ae c,Ae q]) kV (Gc _) rfl oV (by simp[Cc]) (by simp[Cc]) ?_;intro g2 V l2 C;have F:Cj V (.slice (some ⟨g2,0,none⟩) 3 3) [Ae s,Ae c,Ae q]:=⟨_,3,rfl,A08 _,fun j e L=>⟨g2,0,rfl,C j e L⟩⟩;refine G.c call177 (Ue F (fun t m=>by
  simp only[A1g,A11,or_false]at m;rcases m with rfl|rfl|rfl
  ·exact⟨_,rfl,Q⟩
  ·exact⟨_,rfl,K⟩
  exact⟨_,rfl,O⟩) mV) ?_
 rintro v3 u3 U rfl;have h:=(T.trans l2).trans U;refine G.c call175 (Gd (fid:=178) (cap:=[]) (H.mono h) (by rw[A3];omega) call178 (fun r g Z x N R=>?_)) ?_
 ·obtain⟨y,z,rfl⟩:=Mg g;exact At4 R (Arw (hT y z)) (by rw[A03,P y z];omega)
 rintro v4 u4 Y rfl;exact G.r (.bool true) ⟨rfl,rfl⟩
end
section
variable {u:PH} {xv yv:Value} {X:List (List Rat)} {x y:List Rat} {n:Nat}
def As6 (hx:F6 u xv x)(hy:F6 u yv y)(hl:x.length=n)(Q:y.length=n)(hn:n<=100){S S':Nat}(hS:SzL x S)(N:SzL y S')(a0:n*(S+S'+1)<=100000000) :
 Fn0 prog 69 [xv,yv] u fun r U=>Bg U r (Vq n (gR x) (gR y))/\Sz (Vq n (gR x) (gR y)) (1+n*(S+S'+1)):=by
 obtain⟨es,L,F⟩:=id hx;obtain⟨es',m,H⟩:=id hy;have hF:AtP Bg u es x:=F;have hF':AtP Bg u es' y:=H;clear F H;obtain⟨a,c,rfl⟩:=L.opn;obtain⟨a',Y,rfl⟩:=m.opn;rw[hF.1,hl]at L⊢;rw[hF'.1,Q]at m⊢;clear hx hy;refine Fn0.o func69<|G.c call128 (Wa (z:=0) oV oV) ?_;intro v1 u1 K T;rw[show ((0:Int):Rat)=0 from rfl]at T;obtain⟨f1,rfl⟩:=T.opF;refine G.l (ι:=Nat×F4) (fun i=>[(0,sV a n c),(1,sV a' n Y),(4,.p 0 0),(5,.p 1001 0),(9,iV n),(10,iV i.1)])
  (fun i=>[(0,⟨143,[bV false,sV none 0 0,bV false,sV none 0 0]⟩),(1001,⟨143,fc i.2⟩)])
  (fun i U m'=>i.1<=n/\Bg U (fv i.2) (Bb i.1 fun t=>gR x t*gR y t)/\Sz (Bb i.1 fun t=>gR x t*gR y t) (1+i.1*(S+S'+1))/\m'=PH.mt) (fun i=>n-i.1) (0,f1) ⟨oV,T,Q3.mono oV,rfl⟩ ?_
 rintro J ⟨i,f⟩ Z u2 m2 l2 ⟨hi,P,h,rfl⟩;simp only at hi P h Z;by_cases I:i<n
 ·refine G.lT i n ?_;have C:i<x.length:=oV;have E:i<y.length:=oV;have hb:i*(S+S'+1)<=n*(S+S'+1):=A13 _ hi;have a4:S+S'+1<=n*(S+S'+1):=Nat.le_mul_of_pos_left _ oV;obtain⟨e,he,k⟩:=hF.at (j:=i) C;obtain⟨e',O,R⟩:=hF'.at (j:=i) E;rw[<-Cu C]at k;rw[<-Cu E]at R;obtain⟨g,rfl⟩:=k.opF;obtain⟨g',rfl⟩:=R.opF;obtain⟨V,o1,rfl,e1⟩:=Ac.at' (L.mono (K.trans l2)) he;obtain⟨W,o2,rfl,e2⟩:=Ac.at' (m.mono (K.trans l2)) O;refine G.a V o1 n c i 4 I<|G.lU (some 4) V (o1+i*4) (fv g) e1<|G.a W o2 n Y i 4 I<|G.lU (some 4) W (o2+i*4) (fv g') e2 ?_;have s1:Sz (gR x i) S:=hS.at C;have s2:Sz (gR y i) S':=N.at E;have sm:=Fx s1 s2;refine G.c call130 (Ga (k.mono (K.trans l2)) (R.mono (K.trans l2)) (s1.mono oV) (s2.mono oV)) ?_;intro v3 u3 l3 k3;obtain⟨f3,rfl⟩:=k3.opF;refine G.c call129 (Lq (P.mono l3) k3 (h.mono oV) (sm.mono oV)) ?_;intro v4 u4 l4 k4;obtain⟨f4,rfl⟩:=k4.opF;refine G.i i<|G.b (Z (i+1,f4) _ _ _ cV ((l2.trans l3).trans l4) ⟨dV,by dsimp only;rw[Ds];exact k4,?_,rfl⟩ dV);dsimp only;rw[Ds];refine (R5 h sm).mono ?_;rw[Nat.succ_mul];omega
 obtain rfl:i=n:=oV;exact G.lF i i<|G.r (fv f) ⟨rfl,P,h⟩
end
end
section
variable {X:List (List Rat)}{n:Nat}{x:List Rat}
def Alj (X:List (List Rat)):Bool->Nat->Nat->Rat
 |false,i,k=>en X i k
 |true,i,k=>en X k i
def Io (n:Nat)(X:List (List Rat))(x:List Rat)(cb:Bool):List Rat:=(List.range n).map fun i=>Bb n fun k=>Alj X cb i k*gR x k
def F1 (n:Nat)(X:List (List Rat))(x:List Rat)(e:Bool):(Io n X x e).length=n:=by simp[Io]
def Xv {e:Bool}{i:Nat}(hi:i<n):gR (Io n X x e) i=Bb n fun k=>Alj X e i k*gR x k:=by
 unfold Io gR;rw[A02,A1a,A31 hi];rfl
def Aeu {u:PH}{av xv:Value}{n S:Nat}(R:Bool)(h:C7 u av (Cv X))(hX:Rec n n X)(hT:∀ r∈X,∀ y∈r,Tx y)(hx:F6 u xv x)(hl:x.length=n)(hn:n<=100)(hS:SzL x S)(af:n*(400+S+1)<=100000000) :
 Fn0 prog 70 [av,xv,.bool R] u fun r u'=>F6 u' r (Io n X x R)/\SzL (Io n X x R) (1+n*(400+S+1)):=by
 have a1:∀ i k,i<n->k<n->Tx (en X i k):=fun i k hi hk=>by
  have F:i<X.length:=by rw[hX.1];exact hi
  have T:=hX.2 i hi;rw[Ch F]at T;have P:k<X[i].length:=oV;unfold en;rw[Ch F,Cu P];exact hT _ (A09 F) _ (A09 P)
 have V:∀ {u':PH} {a:Option Addr} {c:Nat} (i k:Nat),C7 u' (.slice a n c) (Cv X)->i<n->k<n->∃ b1 o1 b2 o2 c2,a=some ⟨b1,o1,none⟩/\ElP u' b1 (o1+i*1) (.slice (some ⟨b2,o2,none⟩) n c2)/\ElP u' b2 (o2+k*1) (.string (mkS (Ae (en X i k)))):=fun i k hM hi hk=>by
  have F:i<X.length:=by rw[hX.1];exact hi
  have T:=hX.2 i hi;rw[Ch F]at T;have P:k<X[i].length:=oV;obtain⟨b1,o1,b2,o2,c2,e0,e1,e2⟩:=hM.cell F P;refine⟨b1,o1,b2,o2,c2,e0,by rw[<-T];exact e1,?_⟩;unfold en;rw[Ch F,Cu P];exact e2
 obtain⟨es,hL,a9⟩:=id hx;have hF:AtP Bg u es x:=a9;obtain⟨a,c,rfl⟩:=h.opn;obtain⟨xa,xc,rfl⟩:=hL.opn;rw[A3,hX.1]at h⊢;rw[hF.1,hl]at hL⊢;clear hx a9;refine Fn0.o func70<|G.make 143 4 64 zF n kV rfl rfl oV oV oV ?_;rintro v1 m1 a4 ⟨aO,rfl⟩;obtain⟨go,rfl,_⟩:=a4.some';refine G.l (ι:=Nat×List Value) (fun i=>[(0,sV a n c),(1,sV xa n xc),(2,bV R),(7,sV (some ⟨go,0,none⟩) n n),(16,iV n),(17,iV i.1)]) (fun _=>[])
  (fun i u' m'=>i.1<=n/\i.2.length=n/\(∀ j,j<i.1->∃ e,i.2[j]?=some e/\Bg u' e (gR (Io n X x R) j)/\Sz (gR (Io n X x R) j) (1+n*(400+S+1)))/\Af PH.mt m' (.slice (some ⟨go,0,none⟩) n n) 143 4 i.2) (fun i=>n-i.1) (0,List.replicate n zF)
  ⟨oV,mV,fun j H=>absurd H (Nat.not_lt_zero _),a4⟩ ?_
 clear a4;rintro J ⟨i,es1⟩ hJ u2 m2 l2 ⟨hi,L,E,a0⟩;simp only at hi L E a0 hJ;by_cases m:i<n
 ·refine G.lT i n<|G.c call128 (Wa (z:=0) oV oV) ?_;intro v3 u3 l3 k3;rw[show ((0:Int):Rat)=0 from rfl]at k3;obtain⟨f3,rfl⟩:=k3.opF;refine G.a go 0 n n i 4 m<|G.storeA 4 PH.mt es1 go n n i (fv f3) kV a0 oV rfl rfl ?_;intro m4 a8;refine G.l (ι:=Nat×List Value) (fun k=>[(0,sV a n c),(1,sV xa n xc),(2,bV R),(7,sV (some ⟨go,0,none⟩) n n),(8,iV i),(16,iV n),(17,iV i),(24,sV xa n xc),(25,iV n),(26,iV k.1)]) (fun _=>[])
   (fun k u' m'=>k.1<=n/\k.2.length=n/\(∀ j,j<i->∃ e,k.2[j]?=some e/\Bg u' e (gR (Io n X x R) j)/\Sz (gR (Io n X x R) j) (1+n*(400+S+1)))/\(∃ f,k.2[i]?=some (fv f)/\Bg u' (fv f) (Bb k.1 fun t=>Alj X R i t*gR x t)/\Sz (Bb k.1 fun t=>Alj X R i t*gR x t) (1+k.1*(400+S+1)))/\Af PH.mt m' (.slice (some ⟨go,0,none⟩) n n) 143 4 k.2) (fun k=>n-k.1) (0,es1.set i (fv f3))
   ⟨oV,by dsimp only;rw[A21];exact L,fun j H=>by
    obtain⟨e,F,T,P⟩:=E j H;exact⟨e,by dsimp only;rw[A1z,if_neg oV];exact F,T.mono l3,P⟩,⟨f3,by dsimp only;rw[A1z,if_pos rfl,if_pos oV],k3,Q3.mono oV⟩,a8⟩ ?_
  clear E a0 a8 L;rintro J2 ⟨k,U⟩ a6 u5 m5 l5 ⟨hk,N,O,K,Q⟩;simp only at hk N O K Q a6;have a3:=(l2.trans l3).trans l5;by_cases C:k<n
  ·refine G.lT k n ?_;have a2:k<x.length:=oV;obtain⟨e,he,kx⟩:=hF.at (j:=k) a2;rw[<-Cu a2]at kx;obtain⟨g,rfl⟩:=kx.opF;have aa:=kx.mono a3;obtain⟨bx,ox,rfl,ex⟩:=Ac.at' (hL.mono a3) he;refine G.a bx ox n xc k 4 C<|G.lU (some 4) bx (ox+k*4) (fv g) ex ?_;obtain⟨b1,o1,b2,o2,c2,rfl,e1,e2⟩:=V i k (h.mono a3) m C;refine G.a b1 o1 n c i 1 m<|G.lU none b1 (o1+i*1) _ e1<|G.a b2 o2 n c2 k 1 C<|G.lU none b2 (o2+k*1) _ e2 ?_;cases R
   ·have hA:i<n:=m;obtain⟨fq,W,Y,I⟩:=K;have hb:k*(400+S+1)<=n*(400+S+1):=A13 _ hk;have ac:400+S+1<=n*(400+S+1):=Nat.le_mul_of_pos_left _ oV;refine G.a go 0 n n i 4 m<|G.lM (some 4) go (0+i*4) (fv fq) (Q.el W)<|G.c call133 (Gs (a1 i k m C)) ?_;intro v6 u6 l6 k6;obtain⟨f6,rfl⟩:=k6.opF;have s1:Sz (en X i k) 400:=(a1 i k m C).sz;have s2:Sz (gR x k) S:=hS.at a2;have sm:=Fx s1 s2;refine G.c call130 (Ga k6 (aa.mono l6) (s1.mono oV) (s2.mono oV)) ?_;intro v7 u7 l7 k7;obtain⟨f7,rfl⟩:=k7.opF;refine G.c call129 (Lq (Y.mono (l6.trans l7)) k7 (I.mono oV) (sm.mono oV)) ?_;intro v8 u8 l8 k8;obtain⟨f8,rfl⟩:=k8.opF;refine G.a go 0 n n i 4 m<|G.storeA 4 PH.mt U go n n i (fv f8) kV Q oV rfl rfl ?_;intro m9 a5;have Z:=(l6.trans l7).trans l8;refine G.i k<|G.b (a6 (k+1,U.set i (fv f8)) _ _ _ cV (l5.trans Z) ⟨dV,by dsimp only;rw[A21];exact N,?_,?_,a5⟩ dV)
    ·intro j H;obtain⟨e,F,T,P⟩:=O j H;exact⟨e,by dsimp only;rw[A1z,if_neg oV];exact F,T.mono Z,P⟩
    refine⟨f8,by dsimp only;rw[A1z,if_pos rfl,if_pos oV],by dsimp only;rw[Ds];exact k8,?_⟩;dsimp only;rw[Ds];refine (R5 I sm).mono ?_;rw[Nat.succ_mul];omega
   obtain⟨b3,o3,b4,o4,c4,e0,e3,e4⟩:=V k i (h.mono a3) C m;cases e0;refine G.a b1 o1 n c k 1 C<|G.lU none b1 (o1+k*1) _ e3<|G.a b4 o4 n c4 i 1 m<|G.lU none b4 (o4+i*1) _ e4 ?_;obtain⟨fq,W,Y,I⟩:=K;have hb:k*(400+S+1)<=n*(400+S+1):=A13 _ hk;have ac:400+S+1<=n*(400+S+1):=Nat.le_mul_of_pos_left _ oV;refine G.a go 0 n n i 4 m<|G.lM (some 4) go (0+i*4) (fv fq) (Q.el W)<|G.c call133 (Gs (a1 k i C m)) ?_;intro v6 u6 l6 k6;obtain⟨f6,rfl⟩:=k6.opF;have s1:Sz (en X k i) 400:=(a1 k i C m).sz;have s2:Sz (gR x k) S:=hS.at a2;have sm:=Fx s1 s2;refine G.c call130 (Ga k6 (aa.mono l6) (s1.mono oV) (s2.mono oV)) ?_;intro v7 u7 l7 k7;obtain⟨f7,rfl⟩:=k7.opF;refine G.c call129 (Lq (Y.mono (l6.trans l7)) k7 (I.mono oV) (sm.mono oV)) ?_;intro v8 u8 l8 k8;obtain⟨f8,rfl⟩:=k8.opF;refine G.a go 0 n n i 4 m<|G.storeA 4 PH.mt U go n n i (fv f8) kV Q oV rfl rfl ?_;intro m9 a5;have Z:=(l6.trans l7).trans l8;refine G.i k<|G.b (a6 (k+1,U.set i (fv f8)) _ _ _ cV (l5.trans Z) ⟨dV,by dsimp only;rw[A21];exact N,?_,?_,a5⟩ dV)
   ·intro j H;obtain⟨e,F,T,P⟩:=O j H;exact⟨e,by dsimp only;rw[A1z,if_neg oV];exact F,T.mono Z,P⟩
   refine⟨f8,by dsimp only;rw[A1z,if_pos rfl,if_pos oV],by dsimp only;rw[Ds];exact k8,?_⟩;dsimp only;rw[Ds];refine (R5 I sm).mono ?_;rw[Nat.succ_mul];omega
  obtain rfl:k=n:=oV;refine G.lF k k ?_;obtain⟨fq,W,Y,I⟩:=K;refine G.i i<|G.b (hJ (i+1,U) _ _ _ cV ((l2.trans l3).trans l5) ⟨dV,N,?_,Q⟩ dV);intro j H;dsimp only at H⊢;by_cases ad:j=i
  ·subst ad;rw[Xv m];exact⟨_,W,Y,I⟩
  exact O j oV
 obtain rfl:i=n:=oV;refine G.lF i i<|G.give PH.mt es1 _ kV a0 (fun _=>.inl rfl) ?_;intro u3 l3 ab;refine G.r (.slice (some ⟨go,0,none⟩) i i) ⟨rfl,⟨es1,ab,by rw[L,F1],fun j q H=>?_⟩,fun q hq=>?_⟩
 ·obtain⟨a7,e⟩:=A05.1 H;rw[F1]at a7;obtain⟨x1,F,T,_⟩:=E j a7;refine⟨x1,F,?_⟩;rw[<-e,<-Cu (by rw[F1];exact a7)];exact T.mono l3
 obtain⟨j,H,rfl⟩:=A3d.1 hq;have ae:j<i:=by rw[F1]at H;exact H
 obtain⟨_,_,_,P⟩:=E j ae;rwa[Cu H]at P
end
section
variable [Cl] [Co]
end
def Avx (L:List Par):A9 2 (L.map Ap):=fun x e=>by
 obtain⟨y,_,rfl⟩:=A1b.1 e;exact⟨rfl,A1o.1 rfl⟩
def Ag8 {u:PH}{v:Value}{L:List Par}(h:Ac u v 2 (L.map Ap))(h0:L≠[])(z:L.length<=1000000) :
 Ag prog 155 [v] u PH.mt fun t F n=>Af PH.mt n t 118 2 (L.map Ap):=by
 obtain⟨a,c,rfl⟩:=h.opn;have e:0<(L.map Ap).length:=by rw[A03];exact A4f.2 h0
 obtain⟨b,off,rfl,_⟩:=Ac.at' h (A01 e);refine Ag.o func155<|G.nilF 118 ⟨b,off,none⟩ (L.map Ap).length c kV<|G.build0 118 2 24 (.agg #[.int .i64 0,.string (mkS [])]) kV ?_;intro g C m;refine G.append 118 2 24 (.agg #[.int .i64 0,.string (mkS [])]) PH.mt [] (L.map Ap) (.slice (some ⟨g,0,none⟩) 0 0) b off (L.map Ap).length c kV rfl rfl oV m h.els (Avx L) rfl e gV gV ?_;intro H E j;obtain⟨a2,c2,rfl⟩:=j.shape;exact G.r _ j
section
def Al5 {u:PH}{v:Value}{ts:List (List UInt8)}(h:Cj u v ts)(h0:ts≠[])(n:ts.length<=1000000) :
 Ag prog 156 [v] u PH.mt fun z H t=>Af PH.mt t z 34 1 (Cc ts):=by
 obtain⟨a,c,rfl⟩:=Ac.opn h;have e:0<(Cc ts).length:=by rw[Cb];exact A4f.2 h0
 obtain⟨b,off,rfl,_⟩:=Ac.at' h (A01 e);have C:(Cc ts).length<=1000000:=by rw[Cb];exact n
 refine Ag.o func156<|G.nilF 34 ⟨b,off,none⟩ (Cc ts).length c kV<|G.build0 34 1 16 (.string (mkS [])) kV ?_;intro g E m;refine G.append 34 1 16 (.string (mkS [])) PH.mt [] (Cc ts) (.slice (some ⟨g,0,none⟩) 0 0) b off (Cc ts).length c kV rfl rfl oV m (Ac.els h) (Gc ts) rfl e gV gV ?_;intro I F j;obtain⟨a2,c2,rfl⟩:=j.shape;exact G.r _ j
section
variable {u:PH} {pa xa ra:Option Addr} {pc xc rc:Nat} {P:List Par} {X:List (List Rat)} {b:List Rat} {t1 t2 t3:List UInt8}
def Yg (hP:Ac u (.slice pa P.length pc) 2 (P.map Ap))(hX:C7 u (.slice xa X.length xc) (Cv X))(hR:Cj u (.slice ra b.length rc) (b.map Ae))(h0:P≠[])(a4:b≠[])(ae:∀ r∈X,r≠[])(ai:P.length<=1000)(aj:X.length<=1000)(af:∀ r∈X,r.length<=1000)(ak:b.length<=1000) :
 Ag prog 86 [.agg #[.slice pa P.length pc,.slice xa X.length xc,.slice ra b.length rc,.string (mkS t1),.string (mkS t2),.string (mkS t3)]] u PH.mt fun r u' m' =>
  ∃ (L:Option Addr) (qc:Nat) (N:Option Addr) (O:Nat) (z:Option Addr) (C:Nat) (e:List (Value×List Value)),r=.agg #[.slice L P.length qc,.slice N X.length O,.slice z b.length C,.string (mkS t1),.string (mkS t2),.string (mkS t3)] /\
   Ac u' (.slice L P.length qc) 2 (P.map Ap)/\e.map (·.2)=X.map txV/\Bag m' (Bu (.slice z b.length C,txV b)::oT (.slice N X.length O) e::e.map Bu):=by
 refine Ag.o func86<|G.callO _ _ kV call155 (Ag8 hP h0 oV) ?_;intro v1 u1 m1 l1 E _;rw[By];obtain⟨L,qc,rfl⟩:=E.shape;rw[A03]at E⊢;refine G.callO _ _ kV call156 (Al5 (Ac.mono hR l1) (by simpa using a4) (by rw[A03];omega)) ?_;intro v2 u2 m2 l2 I ab;have j:=I.join ab;obtain⟨z,C,rfl⟩:=I.shape;rw[Cb,A03]at j⊢;obtain⟨sm,ag,a3,a0⟩:=j.split;refine G.giveP (ma:=m1) (sm:=sm) kV ag a3 (fun g=>.inl rfl) ?_;intro u3 l3 ad;have a1:Ac u3 (.slice L P.length qc) 2 (P.map Ap):=by
  have:=E.list ad;simpa using this
 have T:Bag sm (Bu (.slice z b.length C,txV b)::oT (.slice none 0 0) []::([]:List (Value×List Value)).map Bu):=⟨PH.mt,by rw[D6,J7];exact a0,PH.mt,Af.nil _ _ _,trivial⟩;have a2:=hX.mono ((l1.trans l2).trans l3);refine G.l (ι:=Nat×(Option Addr×Nat)×List (Value×List Value)) (fun i=>[(2,.p 1 0),(3,.p 1001 0),(17,sV xa X.length xc),(18,iV X.length),(19,iV i.1)])
  (fun i=>[(1,⟨48,[sV none 0 0,sV none 0 0,sV none 0 0,tV [],tV [],tV []]⟩),(1001,⟨48,[sV L P.length qc,sV i.2.1.1 i.1 i.2.1.2,sV z b.length C,tV t1,tV t2,tV t3]⟩)])
  (fun i u' m'=>i.1<=X.length/\i.2.2.map (·.2)=(X.take i.1).map txV/\Bag m' (Bu (.slice z b.length C,txV b)::oT (.slice i.2.1.1 i.1 i.2.1.2) i.2.2::i.2.2.map Bu)) (fun i=>X.length-i.1) (0,(none,0),[]) ⟨oV,rfl,T⟩ ?_
 clear T a0 I j E;rintro J ⟨i,⟨N,O⟩,e⟩ hJ u4 m4 l4 ⟨hi,h,m⟩;simp only at hi h m hJ;have W:e.length=i:=by have:=congrArg List.length h;simp at this;omega
 by_cases U:i<X.length
 ·refine G.lT i X.length ?_;obtain⟨r,K⟩:∃ r,X[i]?=some r:=⟨_,A01 U⟩;have Y:=A1k K;have ah:X.take (i+1)=X.take i++[r]:=by rw[A1n,K];rfl
  obtain⟨bx,ox,a5,c5,rfl,e5,s5⟩:=(a2.mono l4).row (Dw K);rw[A03]at e5;refine G.a bx ox X.length xc i 1 U<|G.lU none bx (ox+i*1) (.slice a5 r.length c5) e5 ?_;rw[A03]at s5;refine G.callO _ _ kV call156 (Al5 s5 (by simpa using ae r Y) (by rw[A03];have:=af r Y;omega)) ?_;intro v6 u6 m6 l6 Q ac;have H:=Q.join ac;obtain⟨n,t,rfl⟩:=Q.shape;rw[Cb,A03]at H⊢;have a7:Bag (m4.or m6) (Bu (.slice n r.length t,txV r)::Bu (.slice z b.length C,txV b)::oT (.slice N i O) e::e.map Bu):=⟨m4,by rw[D6,J7];exact H,m⟩;refine G.B 46 1 24 (.slice none 0 0) [.slice n r.length t] (B5 _ _ _) ?_;intro g7 u7 l7 e7;obtain⟨mo,Z,V⟩:=a7.focus 2 rfl;rw[Aaa]at Z;refine G.k 46 1 24 (.slice none 0 0) mo (e.map (·.1)) [.slice n r.length t] (.slice N i O) g7 0 1 1 Z e7 (B5 _ _ _) ?_;intro v8 m8 F;have em:e.map (·.1)++[Value.slice n r.length t]=(e++[(Value.slice n r.length t,txV r)]).map (·.1):=mV;rw[em]at F;obtain⟨a8,c8,rfl⟩:=F.shape;have el:((e++[(Value.slice n r.length t,txV r)]).map (·.1)).length=i+1:=by simp[W]
  rw[el]at F⊢;have a9:=V (oT (.slice a8 (i+1) c8) (e++[(Value.slice n r.length t,txV r)])) m8 F;have aa:=Bag.perm S8 a9;have R:Bag m8 (Bu (.slice z b.length C,txV b)::oT (.slice a8 (i+1) c8) (e++[(Value.slice n r.length t,txV r)])::(e++[(Value.slice n r.length t,txV r)]).map Bu):=by simpa using aa
  refine G.i i<|G.b (hJ (i+1,(a8,c8),e++[(Value.slice n r.length t,txV r)]) _ _ _ cV ((l4.trans l6).trans l7) ⟨dV,?_,R⟩ dV);dsimp only;rw[A1i,h,ah];simp
 obtain rfl:i=X.length:=oV;refine G.lF X.length X.length ?_;rw[A15]at h;exact G.r (.agg #[.slice L P.length qc,.slice N X.length O,.slice z b.length C,.string (mkS t1),.string (mkS t2),.string (mkS t3)]) ⟨L,qc,N,O,z,C,e,rfl,a1.mono l4,h,m⟩
end
end
section
def Q7 {u:PH}{y:Value}{q r:Rat}{g k:Nat}(C:Hx u)(e:Tx q)(j:Bg u y r)(z:Sz r k)(H:k<=1000000000)(h:Tx (q+r)) :
 Fn0 prog 132 [.string (mkS (Ae q)),y,.pointer (some ⟨g,0,none⟩)] u fun v _=>v=.string (mkS (Ae (q+r))):=by
 obtain⟨E,rfl⟩:=j.opF;refine Fn0.o func132<|G.c call133 (Gs e) ?_;intro N J t m;obtain⟨f1,rfl⟩:=m.opF;refine G.c call129 (Lq m (j.mono t) (e.sz.mono oV) (z.mono oV)) ?_;intro O K l2 n;obtain⟨f2,rfl⟩:=n.opF;refine G.c call71 (Uf (C.mono (t.trans l2)) n h) ?_;rintro Q L I rfl;exact G.nF 0 0<|G.r (.string (mkS (Ae (q+r)))) ⟨rfl,rfl⟩
def Azi {u:PH}{T:List (List UInt8×Nat)}{R:List Br}{F:List Al}{l:Nat}{ss:List (List UInt8)}(ok:Bl u T R F (l:Int))(t:Bw T ss)(m:G4 F (l:Int) ss=true):ss.getD l []≠[]/\ss.getD l []=Ae ((cfT F (l:Int) ss).s B7)/\SmW ((cfT F (l:Int) ss).s B7):=by
 obtain⟨n,E⟩:=ok.l2 l rfl;have O:=(A05.1 E).1;have C:=t.len;have N:l<ss.length:=oV;have z:ss[l]?=some ss[l]:=A01 N;have e:ss.getD l []=ss[l]:=by simp[A02,z]
 have g:ss.getD l []≠[]:=fun h=>by
  unfold G4 at m;rw[A23,h]at m;simp at m
 have j:=Hg (F:=F) (lab:=(l:Int)) z;have L:Gm F (l:Int) l ss[l]=some (some (B7,Lk ss[l])):=by
  unfold Gm;rw[if_pos rfl];unfold Sy;rw[if_neg (by rw[<-e];exact g)];rfl
 rw[L]at j;have H:=Tv ok.feat t ok.l1 (fun l' e=>by have:=Int.ofNat.inj e;omega) m j;have Q:=t.val l _ _ E z;have I:=Hz Q (by rw[<-e];exact g);obtain⟨J,K⟩:=I;refine⟨g,?_,?_⟩
 ·rw[H,e];exact K.symm
 rw[H];exact J
structure Av5 (F:List Al)(l:Nat)(P:List Par)(ss:List (List UInt8)):Prop where
 cnt:G4 F (l:Int) ss=true
 has:∀ x∈Dx F ss F.length,x.1∈P
section
variable {u:PH} {tv:Value} {T:List (List UInt8×Nat)} {R:List Br} {F:List Al} {l:Nat} {ss:List (List UInt8)} {P:List Par} {X:List (List Rat)} {b:List Rat} {s c q:Rat} {w:Int}
variable {pa xa ra a1 a2 a3:Option Addr} {pc xc rc c1 c2 c3:Nat}
def Aog (ht:Hx u)(h:Mv u (.agg #[.slice a1 T.length c1,.slice a2 R.length c2,.slice a3 F.length c3,.int .i64 l]) tv T R F (l:Int) ss)(V:Av5 F l P ss)
 (hP:Ac u (.slice pa P.length pc) 2 (P.map Ap)) (Y:C7 u (.slice xa (P.length+1) xc) (Cv X)) (hR:Cj u (.slice ra (P.length+1) rc) (b.map Ae)) (hp:Td F P q) (j:Ah3 P X b s c) (E:∃ L,Y5 X L 86) (h5:P.length<=5) (aa:w≠0) (ab:-1000000000000<=w) (ac:w<=1000000000000) :
 Fn0 prog 68 [stV pa P.length pc xa xc ra rc s c q a1 T.length c1 a2 R.length c2 a3 F.length c3 (l:Int),tv,.int .i64 w] u fun r e=>∃ xv,r=.tuple #[xv,.bool true,.int .i64 0]/\F6 e xv (Ko P (cfT F (l:Int) ss).s):=by
 have a5:=Lm h;have Z:=fun (e:PH) (C:PH.le u e)=>Yv (h.mono C);have a4:=fun (e:PH) (C:PH.le u e)=>Anh (h.mono C) (hP.mono C) hp.srt V.has oV;have I:=h.lt;have t:=h.fit;have m:=h.ok;have a0:=Avy (P:=P) m.feat t m.l1 I V.cnt hp.par;have a9:=Abm (P:=P) m.feat t m.l1 I V.cnt hp.par;have z:=j.sq;have g:∀ r∈X,r.length=P.length+1:=fun r hr=>by rw[z.row r hr,j.n]
 obtain⟨L,E⟩:=E;have a8:∀ e,PH.le u e->Fn0 prog 100 [stV pa P.length pc xa xc ra rc s c q a1 T.length c1 a2 R.length c2 a3 F.length c3 (l:Int)] e fun r _=>r=.bool true:=fun e W=>Xy (Y.mono W) j.n g oV;have a6:∀ e,PH.le u e->Fn0 prog 101 [stV pa P.length pc xa xc ra rc s c q a1 T.length c1 a2 R.length c2 a3 F.length c3 (l:Int)] e fun r _=>r=.bool true:=fun e W=>Uw (Y.mono W) (Ac.mono hR W) j.n g j.bn z.tx j.bt j.st j.ct hp.pen.tx oV;refine Fn0.o func68<|G.c call89 a5 ?_;rintro v1 u1 C rfl;refine G.nF 0 0<|G.eF' w 0 aa<|G.lF w (-1000000000000)<|G.gF w 1000000000000<|G.c call90 (Z u1 C) ?_;rintro v2 u2 l2 rfl;rw[V.cnt];refine G.lF l 0 ?_;have J:=C.trans l2;refine G.c call140 (a4 u2 J) ?_;rintro v3 u3 l3 ⟨lv,rfl,hS⟩;have O:=J.trans l3;have H:Cj u3 lv ((Ko P (cfT F (l:Int) ss).s).map Ae):=by rw[<-a0];exact hS
 obtain⟨la,lc,rfl⟩:=Ac.opn H;refine G.nF 0 0<|G.c call100 (a8 u3 O) ?_;rintro v4 u4 l4 rfl;have Q:=O.trans l4;refine G.c call101 (a6 u4 Q) ?_;rintro v5 u5 l5 rfl;have U:=Q.trans l5;refine G.gF (P.length+1:Nat) 12<|G.c call119 (Aie (N:=6) (K:=86) (ht.mono U) (Y.mono U) z.tx (by have:=j.n;omega) (fun r hr=>by rw[g r hr];omega) oV oV oV E.den E.pos E.nl E.dig) ?_;rintro v6 u6 l6 rfl;refine G.c call141 (T0 (Ac.mono H ((l4.trans l5).trans l6)) (fun x hx=>(a9 x hx).tx) (by rw[Ad6];omega)) ?_;intro v7 u7 l7 k7;obtain⟨a7,c7,rfl⟩:=k7.lp.opn;exact G.r (.tuple #[.slice a7 (Ko P (cfT F (l:Int) ss).s).length c7,.bool true,.int .i64 0]) ⟨rfl,_,rfl,k7⟩
def Ail {n:Nat}(h:Mv u (.agg #[.slice a1 T.length c1,.slice a2 R.length c2,.slice a3 F.length c3,.int .i64 l]) tv T R F (l:Int) ss)(t:G4 F (l:Int) ss=false)(j:w≠0)(z:-1000000000000<=w)(C:w<=1000000000000) :
 Fn0 prog 68 [stV pa n pc xa xc ra rc s c q a1 T.length c1 a2 R.length c2 a3 F.length c3 (l:Int),tv,.int .i64 w] u fun r _=>r=.tuple #[.slice none 0 0,.bool false,.int .i64 0]:=by
 have g:=Lm h;have e:=fun (E:PH) (m:PH.le u E)=>Yv (h.mono m);refine Fn0.o func68<|G.c call89 g ?_;rintro J H m rfl;refine G.nF 0 0<|G.eF' w 0 j<|G.lF w (-1000000000000)<|G.gF w 1000000000000<|G.c call90 (e H m) ?_;rintro K I l2 rfl;rw[t];exact G.r (.tuple #[.slice none 0 0,.bool false,.int .i64 0]) ⟨rfl,rfl⟩
end
end
section
variable {i n:Nat}{x:Par->Rat}
def Atn {m:PH}{b:Nat}(o:Obj)(h:m b=none):m.upd b o=(Pj b o).or m/\Hp (Pj b o) m:=by
 constructor
 ·funext k
  by_cases e:k=b
  ·subst e;rw[Ab,PH.or_l (Ck k o)]
  rw[Ad _ _ e,PH.or_r (Mz o e)]
 intro k;by_cases e:k=b
 ·subst e;exact .inr h
 exact .inl (Mz o e)
def Ayd {Z:List (List Rat)}{i k:Nat}{y:Rat}(h:Rec n n Z)(hi:i<n)(g:k<n)(a b:Nat):en (Z.set i ((gM Z i).set k y)) a b=if i=a then (if k=b then y else en Z i b) else en Z a b:=by
 unfold en;rw[Kb (by rw[h.1];exact hi)];by_cases e:i=a
 ·rw[if_pos e,if_pos e,Aht (by rw[h.2 i hi];exact g)]
 rw[if_neg e,if_neg e]
def F6.cellG {u:PH}{a:Option Addr}{n c:Nat}{m:List Rat}(h:F6 u (.slice a n c) m){j:Nat}(t:j<m.length):∃ b off f,a=some ⟨b,off,none⟩/\ElP u b (off+j*4) (fv f)/\Bg u (fv f) (gR m j):=by
 obtain⟨b,off,e,rfl,z,g⟩:=LP.at h (A01 t);rw[<-Cu t]at g;obtain⟨f,rfl⟩:=g.opF;exact⟨b,off,f,rfl,z,g⟩
section
variable {u:PH} {tv:Value} {T:List (List UInt8×Nat)} {R:List Br} {F:List Al} {l:Nat} {ss:List (List UInt8)} {P:List Par} {X:List (List Rat)} {b:List Rat} {s c q:Rat} {w:Int} {C:CF}
variable {pa xa ra a1 a2 a3:Option Addr} {pc xc rc c1 c2 c3:Nat}
def Ae6 (hi:i<P.length+1):gR (Io (P.length+1) X (Ko P x) false) i=Fy (P.length+1) (en X) (Fg P x) i:=by
 rw[Xv hi];exact Ah fun k e=>by rw[V1 e];rfl
def Apg (hi:i<P.length+1):gR (Io (P.length+1) X (Ko P x) true) i=Fy (P.length+1) (fun i k=>en X k i) (Fg P x) i:=by
 rw[Xv hi];exact Ah fun k e=>by rw[V1 e];rfl
def Axi {w:Rat}:1+w*Vq (P.length+1) (gR (Ko P x)) (gR (Io (P.length+1) X (Ko P x) false))=byN (P.length+1) (en X) (Fg P x) w:=by
 unfold byN Vq
 congr 2
 exact Ah fun k e=>by rw[V1 e,Ae6 e]
def Amb (ht : Hx u) (h : Mv u (.agg #[.slice a1 T.length c1, .slice a2 R.length c2, .slice a3 F.length c3, .int .i64 (l : Int)]) tv T R F (l : Int) ss) (hc : Av5 F l P ss)
    (hP : Ac u (.slice pa P.length pc) 2 (P.map Ap)) (hX : C7 u (.slice xa (P.length + 1) xc) (Cv X)) (hR : Cj u (.slice ra (P.length + 1) rc) (b.map Ae)) (hp : Td F P q) (ed : P ≠ []) (hB : Ah3 P X b s c) (hL : ∃ L, Y5 X L 86) (h5 : P.length ≤ 5) (eg : w ≠ 0) (eh : -1000000000000 ≤ w) (ei : w ≤ 1000000000000)
    (bp : byN (P.length + 1) (en X) (Fg P (cfT F (l : Int) ss).s) (w : Rat) ≠ 0) (af : Ah3 P (Nj (P.length + 1) X (Fg P (cfT F (l : Int) ss).s) (w : Rat)) (Pq P b (cfT F (l : Int) ss).s (w : Rat) ((cfT F (l : Int) ss).s B7)) (s + (w : Rat) * (cfT F (l : Int) ss).s B7 * (cfT F (l : Int) ss).s B7) (c + (w : Rat))) :
    Fn0 prog 57 [stV pa P.length pc xa xc ra rc s c q a1 T.length c1 a2 R.length c2 a3 F.length c3 (l : Int), tv, .int .i64 w] u fun r u' => ∃ sv, r = .tuple #[sv, .int .i64 0] ∧
      Ma u' sv P (Nj (P.length + 1) X (Fg P (cfT F (l : Int) ss).s) (w : Rat)) (Pq P b (cfT F (l : Int) ss).s (w : Rat) ((cfT F (l : Int) ss).s B7)) (s + (w : Rat) * (cfT F (l : Int) ss).s B7 * (cfT F (l : Int) ss).s B7) (c + (w : Rat)) q := by
  have cj := Aog (w := w) ht h hc hP hX hR hp hB hL h5 eg eh ei
  have eb := fun (u' : PH) (l1 : PH.le u u') => Amh (h.mono l1)
  obtain ⟨ec, cy, cw⟩ := Azi h.ok h.fit hc.cnt
  have ee := Abm (P := P) h.ok.feat h.fit h.ok.l1 h.lt hc.cnt hp.par
  have b4 : SzL (Ko P (cfT F (l : Int) ss).s) 1 := fun x hx => (ee x hx).sz
  generalize (cfT F (l : Int) ss).s = x at *
  have ab := hB.sq
  have ag : Rec (P.length + 1) (P.length + 1) X := ⟨hB.n, fun i hi => by have := hB.n; rw [Ch oV]; rw [ab.row _ (A09 oV), hB.n]⟩
  have cg : Rec (P.length + 1) (P.length + 1) (Nj (P.length + 1) X (Fg P x) (w : Rat)) := Rh _ _
  have ce : ∀ i k, i < P.length + 1 → k < P.length + 1 → Tx (en X i k) := fun i k hi hk => by
    have O : i < X.length := by rw [ag.1]; exact hi
    have h2 := ag.2 i hi
    rw [Ch O] at h2
    have h3 : k < X[i].length := by omega
    unfold en
    rw [Ch O, Cu h3]
    exact ab.tx _ (A09 O) _ (A09 h3)
  have ch : ∀ i k, i < P.length + 1 → k < P.length + 1 → Tx (Vd (P.length + 1) (en X) (Fg P x) (w : Rat) i k) := fun i k hi hk => by
    rw [← N6 (f := Vd (P.length + 1) (en X) (Fg P x) (w : Rat)) hi hk]
    have O : i < (Nj (P.length + 1) X (Fg P x) (w : Rat)).length := by rw [cg.1]; exact hi
    have h2 := cg.2 i hi
    rw [Ch O] at h2
    have h3 : k < (Nj (P.length + 1) X (Fg P x) (w : Rat))[i].length := by omega
    show Tx (gR (gM (Nj (P.length + 1) X (Fg P x) (w : Rat)) i) k)
    rw [Ch O, Cu h3]
    exact af.sq.tx _ (A09 O) _ (A09 h3)
  have K : Sz (w : Rat) 2 := ⟨A4 (by simp; omega), A4 mV⟩
  have bm := hB.n
  have aa := hB.bn
  have bi := fun (u' : PH) (l1 : PH.le u u') => Yg (t1 := Ae s) (t2 := Ae c) (t3 := Ae q) (hP.mono l1) (show C7 u' (.slice xa X.length xc) (Cv X) by rw [bm]; exact hX.mono l1) (show Cj u' (.slice ra b.length rc) (b.map Ae) by rw [aa]; exact Ac.mono hR l1) ed (by intro e; rw [e] at aa; simp at aa) (fun r hr e => by have := ab.row r hr; rw [e] at this; simp at this; omega) oV oV (fun r hr => by rw [ab.row r hr]; omega) oV
  refine Fn0.o func57 ?_
  refine G.c call68 cj ?_
  rintro v1 u1 l1 ⟨xv, rfl, kx⟩
  obtain ⟨ax, cx, rfl⟩ := kx.lp.opn
  have b5 := Ad6 P x
  rw [b5] at kx ⊢
  refine G.nF 0 0 ?_
  refine G.c call128 (Wa (z := w) oV oV) ?_
  intro v2 u2 l2 kw
  obtain ⟨fw, rfl⟩ := kw.opF
  have dj := l1.trans l2
  refine G.c call70 (Aeu (n := P.length + 1) (S := 1) false (hX.mono dj) ag ab.tx (kx.mono l2) b5 oV b4 oV) ?_
  rintro v3 u3 l3 ⟨kr, sr⟩
  obtain ⟨ar, cr, rfl⟩ := kr.lp.opn
  rw [F1] at kr ⊢
  have dk := dj.trans l3
  refine G.c call70 (Aeu (n := P.length + 1) (S := 1) true (hX.mono dk) ag ab.tx (kx.mono (l2.trans l3)) b5 oV b4 oV) ?_
  rintro v4 u4 l4 ⟨kc, sc⟩
  obtain ⟨ac, cc, rfl⟩ := kc.lp.opn
  rw [F1] at kc ⊢
  have ek := dk.trans l4
  refine G.c call128 (Wa (z := 1) oV oV) ?_
  intro v5 u5 l5 k1
  rw [show ((1 : Int) : Rat) = 1 from rfl] at k1
  obtain ⟨f1, rfl⟩ := k1.opF
  refine G.c call69 (As6 (n := P.length + 1) (S := 1) (S' := 1 + (P.length + 1) * (400 + 1 + 1)) (kx.mono (((l2.trans l3).trans l4).trans l5)) (kr.mono (l4.trans l5)) b5 (F1 _ _ _ _) oV b4 sr (by
    have h6 : (P.length + 1) * (400 + 1 + 1) ≤ 6 * (400 + 1 + 1) := A13 _ oV
    have h7 : (P.length + 1) * (1 + (1 + (P.length + 1) * (400 + 1 + 1)) + 1) ≤ 6 * (1 + (1 + 6 * (400 + 1 + 1)) + 1) := A25 oV oV
    omega)) ?_
  rintro v6 u6 l6 ⟨kd, sd⟩
  have h6 : (P.length + 1) * (400 + 1 + 1) ≤ 6 * (400 + 1 + 1) := A13 _ oV
  have h7 : (P.length + 1) * (1 + (1 + (P.length + 1) * (400 + 1 + 1)) + 1) ≤ 6 * (1 + (1 + 6 * (400 + 1 + 1)) + 1) := A25 oV oV
  replace sr : SzL _ 2413 := sr.mono oV
  replace sc : SzL _ 2413 := sc.mono oV
  replace sd : Sz _ 14500 := sd.mono oV
  obtain ⟨fd, rfl⟩ := kd.opF
  have dr := Fx K sd
  refine G.c call130 (Ga (kw.mono (((l3.trans l4).trans l5).trans l6)) kd (K.mono oV) (sd.mono oV)) ?_
  intro v7 u7 l7 k7
  obtain ⟨f7, rfl⟩ := k7.opF
  have dm : Sz (1 : Rat) 1 := Adt (z := 1) fV
  refine G.c call129 (Lq (k1.mono (l6.trans l7)) k7 (dm.mono oV) (dr.mono oV)) ?_
  intro v8 u8 l8 k8
  have b9 := R5 dm dr
  rw [Axi] at k8 b9
  obtain ⟨f8, rfl⟩ := k8.opF
  refine G.c call131 (Anr k8 b9 oV) ?_
  rintro v9 u9 l9 rfl
  refine G.eF' (sg (byN (P.length + 1) (en X) (Fg P x) (w : Rat))) 0 (fun e => bp (Aip.1 e)) ?_
  have b8 := (((l5.trans l6).trans l7).trans l8).trans l9
  have dl := ek.trans b8
  have bq := bi u9 dl
  rw [bm, aa] at bq
  refine G.callO _ _ kV call86 bq ?_
  rintro fn fj em aq ⟨qa, qc, ya, yc, sa, E, I, rfl, ca, a0, W⟩ _
  rw [By]
  have bl : I.length = P.length + 1 := by have := congrArg List.length a0; simpa [bm] using this
  obtain ⟨go, co, eo⟩ := W.ptr 1 rfl (fun e => by
    have : (I.map (·.1)).length = 0 := by rw [show I.map (·.1) = [] from e]; rfl
    rw [A03] at this; omega)
  have dx : (Value.slice ya (P.length + 1) yc) = .slice (some ⟨go, 0, none⟩) (P.length + 1) co := by
    have e1 : (oT (.slice ya (P.length + 1) yc) I).v = Value.slice ya (P.length + 1) yc := rfl
    rw [e1] at eo
    rw [eo]
    have : (oT (.slice ya (P.length + 1) yc) I).es.length = P.length + 1 := by show (I.map (·.1)).length = _; rw [A03, bl]
    rw [this]
  cases dx
  obtain ⟨gs, cs, c6⟩ := W.ptr 0 rfl (fun e => by
    have : (txV b).length = 0 := by rw [show txV b = [] from e]; rfl
    rw [Cw] at this; omega)
  have e0 : (Value.slice sa (P.length + 1) E) = .slice (some ⟨gs, 0, none⟩) (P.length + 1) cs := by
    have e1 : (Bu (.slice sa (P.length + 1) E, txV b)).v = Value.slice sa (P.length + 1) E := rfl
    rw [e1] at c6
    rw [c6]
    have : (Bu (.slice sa (P.length + 1) E, txV b)).es.length = P.length + 1 := by show (txV b).length = _; rw [Cw, aa]
    rw [this]
  cases e0
  refine G.pastI ?_
  refine G.pub 12000 39 [.int .i64 0] kV kV ?_
  intro gf f9 cm
  obtain ⟨dy, dz⟩ := Atn (.cells [Value.int .i64 0].toArray 39 (0, 0)) cm
  rw [dy]
  refine G.giveP (ma := Pj gf (.cells [Value.int .i64 0].toArray 39 (0, 0))) (sm := em) kV rfl dz (fun g => .inl rfl) ?_
  intro eu ad cz
  have e9 : eu gf = some (.cells #[.int .i64 0] 39 (0, 0)) := cz _ _ (Ck _ _)
  have az := (((l3.trans l4).trans b8).trans aq).trans ad
  refine G.c call134 (Aqz (kw.mono az) (k8.mono ((l9.trans aq).trans ad)) (K.mono oV) (b9.mono oV) bp) ?_
  intro fo fk au bz
  obtain ⟨fb, rfl⟩ := bz.opF
  have dp := Arz K b9 bp
  refine G.c call135 (Asr bz (A04 dp.1 oV)) ?_
  intro fp fl av d6
  obtain ⟨c7, rfl⟩ := d6.opF
  have dq := Asu dp
  have a9 := au.trans av
  have da := kr.mono (((((l4.trans b8).trans aq).trans ad).trans au).trans av)
  have d9 := kc.mono ((((b8.trans aq).trans ad).trans au).trans av)
  have dc := kx.mono ((l2.trans az).trans a9)
  have db := kw.mono (az.trans a9)
  have b0 := (((dl.trans aq).trans ad).trans au).trans av
  have cb := ca.mono ((ad.trans au).trans av)
  have bs := a9 _ _ e9
  have d3 := ht.mono b0
  generalize hY : Nj (P.length + 1) X (Fg P x) (w : Rat) = Y at *
  have bo : ∀ i k, i < P.length + 1 → k < P.length + 1 → en Y i k = en X i k + -((w : Rat) / byN (P.length + 1) (en X) (Fg P x) (w : Rat)) * gR (Io (P.length + 1) X (Ko P x) false) i * gR (Io (P.length + 1) X (Ko P x) true) k := fun i k hi hk => by
    rw [← hY, show en (Nj (P.length + 1) X (Fg P x) (w : Rat)) i k = Vd (P.length + 1) (en X) (Fg P x) (w : Rat) i k from N6 hi hk, Ae6 hi, Apg hk]; rfl
  have bd : ∀ i k, i < P.length + 1 → k < P.length + 1 → Tx (en Y i k) := fun i k hi hk => by
    rw [← hY, show en (Nj (P.length + 1) X (Fg P x) (w : Rat)) i k = Vd (P.length + 1) (en X) (Fg P x) (w : Rat) i k from N6 hi hk]; exact ch i k hi hk
  generalize d0 : Io (P.length + 1) X (Ko P x) false = rs at *
  generalize cl : Io (P.length + 1) X (Ko P x) true = cls at *
  have fa : rs.length = P.length + 1 := by rw [← d0]; exact F1 _ _ _ _
  have f6 : cls.length = P.length + 1 := by rw [← cl]; exact F1 _ _ _ _
  generalize fh : -((w : Rat) / byN (P.length + 1) (en X) (Fg P x) (w : Rat)) = dv at *
  clear d0 cl k8 bz kd k7 k1 bi bq cj
  refine G.l (ι := Nat × List (List Rat) × List (Value × List Value)) (fun i => [(1, .v tv), (3, .p 0 0), (6, .p 1 0), (8, sV ax (P.length + 1) cx), (11, .p 6002 0), (12, sV ar (P.length + 1) cr), (13, sV ac (P.length + 1) cc), (15, .p 11003 0), (16, .v (.pointer (some ⟨gf, 0, none⟩))), (17, .v (.func (.func 132) #[] #[.pointer (some ⟨gf, 0, none⟩)])), (18, .p 14004 0), (75, sV (some ⟨go, 0, none⟩) (P.length + 1) yc), (76, iV ((P.length + 1 : Nat) : Int)), (77, iV (i.1 : Int))])
    (fun _ => [(0, ⟨122, [sV pa P.length pc, sV xa (P.length + 1) xc, sV ra (P.length + 1) rc, tV (Ae s), tV (Ae c), tV (Ae q), sV a1 T.length c1, sV a2 R.length c2, sV a3 F.length c3, iV (l : Int)]⟩),
      (1, ⟨48, [.v (.slice none 0 0), .v (.slice none 0 0), .v (.slice none 0 0), .v (.string (mkS [])), .v (.string (mkS [])), .v (.string (mkS []))]⟩), (6002, ⟨143, fc fw⟩),
      (11003, ⟨48, [.v (.slice qa P.length qc), .v (.slice (some ⟨go, 0, none⟩) (P.length + 1) yc), .v (.slice (some ⟨gs, 0, none⟩) (P.length + 1) E), .v (.string (mkS (Ae s))), .v (.string (mkS (Ae c))), .v (.string (mkS (Ae q)))]⟩), (14004, ⟨143, fc c7⟩)])
    (fun i u' m' => i.1 ≤ P.length + 1 ∧ Rec (P.length + 1) (P.length + 1) i.2.1 ∧ (∀ a e, a < P.length + 1 → e < P.length + 1 → en i.2.1 a e = if a < i.1 then en Y a e else en X a e) ∧ i.2.2.map (·.2) = i.2.1.map txV ∧ Bag m' (Bu (.slice (some ⟨gs, 0, none⟩) (P.length + 1) E, txV b) :: oT (.slice (some ⟨go, 0, none⟩) (P.length + 1) yc) i.2.2 :: i.2.2.map Bu)) (fun i => P.length + 1 - i.1)
    (0, X, I) ⟨oV, ag, fun a e _ _ => by rw [if_neg (Nat.not_lt_zero _)], a0, W⟩ ?_
  clear W a0 bl
  rintro J ⟨i, Z, V⟩ hJ ew fi c0 ⟨hi, H, hZ, t, j⟩
  simp only at hi H hZ t j hJ
  by_cases m : i < P.length + 1
  · refine G.lT (i : Int) ((P.length + 1 : Nat) : Int) ?_
    obtain ⟨gi, ci, a5, e1, _⟩ := Ayw j t H m
    refine G.a go 0 (P.length + 1) yc i 1 m ?_
    refine G.lM none go (0 + i * 1) (.slice (some ⟨gi, 0, none⟩) (P.length + 1) ci) e1 ?_
    refine G.l (ι := Nat × List (List Rat) × List (Value × List Value)) (fun k => [(1, .v tv), (3, .p 0 0), (6, .p 1 0), (8, sV ax (P.length + 1) cx), (11, .p 6002 0), (12, sV ar (P.length + 1) cr), (13, sV ac (P.length + 1) cc), (15, .p 11003 0), (16, .v (.pointer (some ⟨gf, 0, none⟩))), (17, .v (.func (.func 132) #[] #[.pointer (some ⟨gf, 0, none⟩)])), (18, .p 14004 0), (19, iV (i : Int)), (20, sV (some ⟨gi, 0, none⟩) (P.length + 1) ci), (75, sV (some ⟨go, 0, none⟩) (P.length + 1) yc), (76, iV ((P.length + 1 : Nat) : Int)), (77, iV (i : Int)), (83, iV ((P.length + 1 : Nat) : Int)), (84, iV (k.1 : Int))])
      (fun _ => [(0, ⟨122, [sV pa P.length pc, sV xa (P.length + 1) xc, sV ra (P.length + 1) rc, tV (Ae s), tV (Ae c), tV (Ae q), sV a1 T.length c1, sV a2 R.length c2, sV a3 F.length c3, iV (l : Int)]⟩),
        (1, ⟨48, [.v (.slice none 0 0), .v (.slice none 0 0), .v (.slice none 0 0), .v (.string (mkS [])), .v (.string (mkS [])), .v (.string (mkS []))]⟩), (6002, ⟨143, fc fw⟩),
        (11003, ⟨48, [.v (.slice qa P.length qc), .v (.slice (some ⟨go, 0, none⟩) (P.length + 1) yc), .v (.slice (some ⟨gs, 0, none⟩) (P.length + 1) E), .v (.string (mkS (Ae s))), .v (.string (mkS (Ae c))), .v (.string (mkS (Ae q)))]⟩), (14004, ⟨143, fc c7⟩)])
      (fun k u' m' => k.1 ≤ P.length + 1 ∧ k.2.2[i]? = some (.slice (some ⟨gi, 0, none⟩) (P.length + 1) ci, txV (gM k.2.1 i)) ∧ Rec (P.length + 1) (P.length + 1) k.2.1 ∧ (∀ a e, a < P.length + 1 → e < P.length + 1 → en k.2.1 a e = if a < i ∨ a = i ∧ e < k.1 then en Y a e else en X a e) ∧ k.2.2.map (·.2) = k.2.1.map txV ∧ Bag m' (Bu (.slice (some ⟨gs, 0, none⟩) (P.length + 1) E, txV b) :: oT (.slice (some ⟨go, 0, none⟩) (P.length + 1) yc) k.2.2 :: k.2.2.map Bu)) (fun k => P.length + 1 - k.1)
      (0, Z, V) ⟨oV, a5, H, fun a e ha he => by
        dsimp only
        rw [hZ a e ha he]
        by_cases O : a < i
        · rw [if_pos O, if_pos oV]
        rw [if_neg O, if_neg oV], t, j⟩ ?_
    clear a5 e1 H hZ t j
    rintro J2 ⟨k, Z, V⟩ c8 ex ep b6 ⟨hk, a5, H, hZ, t, j⟩
    simp only at hk a5 H hZ t j c8
    have a7 := c0.trans b6
    by_cases Q : k < P.length + 1
    · refine G.lT (k : Int) ((P.length + 1 : Nat) : Int) ?_
      have ai : gR (gM Z i) k = en X i k := by
        have O : gR (gM Z i) k = en Z i k := rfl
        rw [O, hZ i k m Q, if_neg oV]
      have br : ElP ep gi (0 + k * 1) (.string (mkS (Ae (en X i k)))) := j.el (i + 2) (Lw a5) rfl (by
        show (txV (gM Z i))[k]? = _
        have cv : k < (gM Z i).length := by rw [H.2 i m]; exact Q
        unfold txV
        rw [A1a, A01 cv, ← Cu cv, ai]; rfl)
      have cp : i < rs.length := by omega
      have cu : k < cls.length := by omega
      obtain ⟨b1, o1, g1, rfl, e3, k3⟩ := (da.mono a7).cellG cp
      obtain ⟨b2, o2, g2, rfl, e4, k4⟩ := (d9.mono a7).cellG cu
      have ak := sr.at cp
      have d1 := sc.at cu
      refine G.a gi 0 (P.length + 1) ci k 1 Q ?_
      refine G.lM none gi (0 + k * 1) (.string (mkS (Ae (en X i k)))) br ?_
      refine G.a b1 o1 (P.length + 1) cr i 4 m ?_
      refine G.lU (some 4) b1 (o1 + i * 4) (fv g1) e3 ?_
      refine G.a b2 o2 (P.length + 1) cc k 4 Q ?_
      refine G.lU (some 4) b2 (o2 + k * 4) (fv g2) e4 ?_
      refine G.c call130 (Ga (d6.mono a7) k3 (dq.mono oV) (ak.mono oV)) ?_
      intro f3 ey aw d7
      obtain ⟨fe, rfl⟩ := d7.opF
      have a8 := Fx dq ak
      refine G.c call130 (Ga d7 (k4.mono aw) (a8.mono oV) (d1.mono oV)) ?_
      intro fr ez N d8
      obtain ⟨ff, rfl⟩ := d8.opF
      have b3 := Fx a8 d1
      refine G.c call132 (Q7 (g := gf) (q := en X i k) (d3.mono ((a7.trans aw).trans N)) (ce i k m Q) d8 b3 oV (by rw [← bo i k m Q]; exact bd i k m Q)) ?_
      rintro dw ds a6 rfl
      rw [← bo i k m Q]
      obtain ⟨m0, am, aj⟩ := j.focus (i + 2) (Lw a5)
      rw [D6] at am
      refine G.a gi 0 (P.length + 1) ci k 1 Q ?_
      refine G.storeA 1 m0 (txV (gM Z i)) gi (P.length + 1) ci k (.string (mkS (Ae (en Y i k)))) kV am (by rw [Cw, H.2 i m]; exact Q) rfl rfl ?_
      intro er ba
      have es : (txV (gM Z i)).set k (.string (mkS (Ae (en Y i k)))) = txV ((gM Z i).set k (en Y i k)) := by unfold txV; rw [A2g]
      rw [es] at ba
      have bf := aj (Bu (.slice (some ⟨gi, 0, none⟩) (P.length + 1) ci, txV ((gM Z i).set k (en Y i k)))) er ba
      rw [Agw, ← Aho a5 (es' := txV ((gM Z i).set k (en Y i k)))] at bf
      refine G.i k ?_
      have ea : i < V.length := (A05.1 a5).1
      have e7 := I8 H m (r := (gM Z i).set k (en Y i k)) (by rw [A21]; exact H.2 i m)
      refine G.b (c8 (k + 1, Z.set i ((gM Z i).set k (en Y i k)), V.set i (.slice (some ⟨gi, 0, none⟩) (P.length + 1) ci, txV ((gM Z i).set k (en Y i k)))) _ _ _ cV (((b6.trans aw).trans N).trans a6) ⟨by dsimp only; omega, ?_, e7, fun a e ha he => ?_, ?_, bf⟩ (by dsimp only; omega))
      · dsimp only
        rw [A1z, if_pos rfl, if_pos ea, Kb (by rw [H.1]; exact m), if_pos rfl]
      · dsimp only
        rw [Ayd H m Q]
        by_cases O : i = a
        · subst O
          rw [if_pos rfl]
          by_cases h2 : k = e
          · subst h2; rw [if_pos rfl, if_pos oV]
          rw [if_neg h2, hZ i e m he]
          by_cases h3 : e < k
          · rw [if_pos oV, if_pos oV]
          rw [if_neg oV, if_neg oV]
        rw [if_neg O, hZ a e ha he]
        by_cases h3 : a < i
        · rw [if_pos oV, if_pos oV]
        rw [if_neg oV, if_neg oV]
      dsimp only
      rw [A2g, t, ← A2g]
    obtain rfl : k = P.length + 1 := by omega
    refine G.lF ((P.length + 1 : Nat) : Int) ((P.length + 1 : Nat) : Int) ?_
    refine G.i i ?_
    refine G.b (hJ (i + 1, Z, V) _ _ _ cV a7 ⟨by dsimp only; omega, H, fun a e ha he => ?_, t, j⟩ (by dsimp only; omega))
    dsimp only
    rw [hZ a e ha he]
    by_cases O : a < i + 1
    · rw [if_pos O, if_pos oV]
    rw [if_neg O, if_neg oV]
  obtain rfl : i = P.length + 1 := by omega
  refine G.lF ((P.length + 1 : Nat) : Int) ((P.length + 1 : Nat) : Int) ?_
  clear hJ
  have e8 : Z = Y := Aks H (by rw [← hY]; exact Rh _ _) fun a e ha he => by rw [hZ a e ha he, if_pos ha]
  subst e8
  have dh := b0.trans c0
  have ah := eb ew dh
  rw [if_neg (by rintro (h | h); · omega
                 exact ec h)] at ah
  refine G.c call136 ah ?_
  rintro fq ex b6 rfl
  rw [A23, cy]
  refine G.c call133 (Gs cw.tx) ?_
  intro f3 ey aw ky
  obtain ⟨fy, rfl⟩ := ky.opF
  have U := (c0.trans b6).trans aw
  have di := b0.trans U
  have dd := dc.mono U
  have ap := db.mono U
  have cd := cb.mono U
  have al := ht.mono di
  have bu := U _ _ bs
  have ae : Sz (x B7) 1 := cw.sz
  have ck := af.bt
  have bh : (Pq P b x (w : Rat) (x B7)).length = P.length + 1 := af.bn
  have d2 : ∀ i, i < P.length + 1 → gR (Pq P b x (w : Rat) (x B7)) i = gR b i + (w : Rat) * gR (Ko P x) i * x B7 := fun i hi => by
    unfold Pq
    rw [Aep (by rw [A1a, A31 hi]; rfl), V1 hi]
  generalize fg : Pq P b x (w : Rat) (x B7) = b' at *
  have be : Z.length = P.length + 1 := H.1
  clear hZ H bo bd ch ce
  refine G.l (ι := Nat × List Rat) (fun i => [(6, .p 1 0), (8, sV ax (P.length + 1) cx), (11, .p 6002 0), (15, .p 11003 0), (16, .v (.pointer (some ⟨gf, 0, none⟩))), (17, .v (.func (.func 132) #[] #[.pointer (some ⟨gf, 0, none⟩)])), (24, .p 25002 0), (120, iV ((P.length + 1 : Nat) : Int)), (121, iV (i.1 : Int))])
    (fun _ => [(1, ⟨48, [sV none 0 0, sV none 0 0, sV none 0 0, tV [], tV [], tV []]⟩), (6002, ⟨143, fc fw⟩),
      (11003, ⟨48, [.v (.slice qa P.length qc), .v (.slice (some ⟨go, 0, none⟩) (P.length + 1) yc), .v (.slice (some ⟨gs, 0, none⟩) (P.length + 1) E), .v (.string (mkS (Ae s))), .v (.string (mkS (Ae c))), .v (.string (mkS (Ae q)))]⟩), (25002, ⟨143, fc fy⟩)])
    (fun i u' m' => i.1 ≤ P.length + 1 ∧ i.2.length = P.length + 1 ∧ (∀ a, a < P.length + 1 → gR i.2 a = if a < i.1 then gR b' a else gR b a) ∧ Bag m' (Bu (.slice (some ⟨gs, 0, none⟩) (P.length + 1) E, txV i.2) :: oT (.slice (some ⟨go, 0, none⟩) (P.length + 1) yc) V :: V.map Bu)) (fun i => P.length + 1 - i.1)
    (0, b) ⟨oV, aa, fun a _ => by rw [if_neg (Nat.not_lt_zero _)], j⟩ ?_
  clear j
  rintro J ⟨i, z⟩ hJ ez c5 N ⟨hi, bx, hz, j⟩
  simp only at hi bx hz j hJ
  by_cases m : i < P.length + 1
  · refine G.lT (i : Int) ((P.length + 1 : Nat) : Int) ?_
    have cq : i < (Ko P x).length := by omega
    have cn : i < b.length := by omega
    have bj : i < b'.length := by omega
    have bw : i < z.length := by omega
    have ai : z[i] = gR b i := by rw [← Cu bw, hz i m, if_neg (Nat.lt_irrefl _)]
    have br : ElP c5 gs (0 + i * 1) (.string (mkS (Ae (gR b i)))) := j.el 0 rfl rfl (by
      show (txV z)[i]? = _
      unfold txV
      rw [A1a, A01 bw, ai]; rfl)
    obtain ⟨b1, o1, g1, rfl, e3, k3⟩ := (dd.mono N).cellG cq
    have ak := b4.at cq
    refine G.a gs 0 (P.length + 1) E i 1 m ?_
    refine G.lM none gs (0 + i * 1) (.string (mkS (Ae (gR b i)))) br ?_
    refine G.a b1 o1 (P.length + 1) cx i 4 m ?_
    refine G.lU (some 4) b1 (o1 + i * 4) (fv g1) e3 ?_
    refine G.c call130 (Ga (ap.mono N) k3 (K.mono oV) (ak.mono oV)) ?_
    intro dw ds a6 an
    obtain ⟨e2, rfl⟩ := an.opF
    have a8 := Fx K ak
    refine G.c call130 (Ga an (ky.mono (N.trans a6)) (a8.mono oV) (ae.mono oV)) ?_
    intro f4 f0 b7 ao
    obtain ⟨e5, rfl⟩ := ao.opF
    have b3 := Fx a8 ae
    have ef : Tx (gR b i) := by rw [Cu cn]; exact hB.bt _ (A09 cn)
    have d4 : Tx (gR b' i) := by rw [Cu bj]; exact ck _ (A09 bj)
    refine G.c call132 (Q7 (g := gf) (q := gR b i) (al.mono ((N.trans a6).trans b7)) ef ao b3 oV (by rw [← d2 i m]; exact d4)) ?_
    rintro f5 f2 c4 rfl
    rw [← d2 i m]
    obtain ⟨m0, am, aj⟩ := j.focus 0 rfl
    rw [D6] at am
    refine G.a gs 0 (P.length + 1) E i 1 m ?_
    refine G.storeA 1 m0 (txV z) gs (P.length + 1) E i (.string (mkS (Ae (gR b' i)))) kV am (by rw [Cw, bx]; exact m) rfl rfl ?_
    intro et bb
    have es : (txV z).set i (.string (mkS (Ae (gR b' i)))) = txV (z.set i (gR b' i)) := by unfold txV; rw [A2g]
    rw [es] at bb
    have bg := aj (Bu (.slice (some ⟨gs, 0, none⟩) (P.length + 1) E, txV (z.set i (gR b' i)))) et bb
    rw [A2p] at bg
    refine G.i i ?_
    refine G.b (hJ (i + 1, z.set i (gR b' i)) _ _ _ cV (((N.trans a6).trans b7).trans c4) ⟨by dsimp only; omega, by dsimp only; rw [A21]; exact bx, fun a ha => ?_, bg⟩ (by dsimp only; omega))
    dsimp only
    rw [Aht bw]
    by_cases O : i = a
    · subst O; rw [if_pos rfl, if_pos oV]
    rw [if_neg O, hz a ha]
    by_cases h2 : a < i
    · rw [if_pos h2, if_pos oV]
    rw [if_neg h2, if_neg oV]
  obtain rfl : i = P.length + 1 := by omega
  refine G.lF ((P.length + 1 : Nat) : Int) ((P.length + 1 : Nat) : Int) ?_
  clear hJ
  have ej : z = b' := A5l oV fun a O h2 => by
    have := hz a oV
    rwa [if_pos oV, Cu O, Cu h2] at this
  subst ej
  refine G.c call130 (Ga (ap.mono N) (ky.mono N) (K.mono oV) (ae.mono oV)) ?_
  intro dw ds a6 an
  obtain ⟨e2, rfl⟩ := an.opF
  have a8 := Fx K ae
  refine G.c call130 (Ga an (ky.mono (N.trans a6)) (a8.mono oV) (ae.mono oV)) ?_
  intro f4 f0 b7 ao
  obtain ⟨e5, rfl⟩ := ao.opF
  have b3 := Fx a8 ae
  have ay := (N.trans a6).trans b7
  refine G.c call132 (Q7 (g := gf) (q := s) (al.mono ay) hB.st ao b3 oV af.st) ?_
  rintro f5 f2 c4 rfl
  have a4 := ay.trans c4
  refine G.c call132 (Q7 (g := gf) (q := c) (al.mono a4) hB.ct (ap.mono a4) K oV af.ct) ?_
  rintro fs fm df rfl
  refine G.giveP (ma := c5) (sm := PH.mt) kV (by funext g; unfold PH.or; cases c5 g <;> rfl) (fun g => .inr rfl) (fun g => .inl rfl) ?_
  intro du dg bk
  refine G.lU none gf 0 (.int .i64 0) (Po (((a4.trans df).trans dg) _ _ bu) (G2 rfl rfl)) ?_
  refine G.nF 0 0 ?_
  have hM : C7 du (.slice (some ⟨go, 0, none⟩) (P.length + 1) yc) (Cv Z) := V9 (v := .bool true) j t bk
  obtain ⟨mf, d5, _⟩ := j.focus 0 rfl
  rw [D6] at d5
  have e6 : Cj du (.slice (some ⟨gs, 0, none⟩) (P.length + 1) E) (z.map Ae) := by
    unfold Cj; rw [← J7]; exact d5.list bk
  exact G.r (.tuple #[.agg #[.slice qa P.length qc, .slice (some ⟨go, 0, none⟩) (P.length + 1) yc, .slice (some ⟨gs, 0, none⟩) (P.length + 1) E, .string (mkS (Ae (s + (w : Rat) * x B7 * x B7))), .string (mkS (Ae (c + (w : Rat)))), .string (mkS (Ae q))], .int .i64 0])
    ⟨rfl, _, rfl, qa, qc, some ⟨go, 0, none⟩, yc, some ⟨gs, 0, none⟩, E, by rw [be, bh], cd.mono ((a4.trans df).trans dg), by rw [be]; exact hM, by rw [bh]; exact e6⟩
end
end
section
section
variable {u:PH} {tv sv:Value} {T:List (List UInt8×Nat)} {R:List Br} {F:List Al} {l:Nat} {ss:List (List UInt8)} {P:List Par} {X:List (List Rat)} {b:List Rat} {s c q:Rat} {w:Int} {C:CF}
variable {a1 a2 a3:Option Addr} {c1 c2 c3:Nat}
def Af7 (h:Ma u sv P X b s c q)(K:P≠[])(H:Ah3 P X b s c)(Z:P.length<=900):Fn0 prog 86 [sv] u fun r N=>Ma N r P X b s c q:=by
 obtain⟨pa,pc,xa,xc,ra,rc,rfl,V,W,Y⟩:=h;have a0:=H.n;have m:=H.bn;have z:=H.sq;have hc:=(Yg (t1:=Ae s) (t2:=Ae c) (t3:=Ae q) V W Y K (by intro e;rw[e]at m;simp at m) (fun r L e=>by have:=z.row r L;rw[e]at this;simp at this;omega) oV oV (fun r L=>by rw[z.row r L];omega) oV).giveAll;refine Fn0.weak hc ?_;rintro r N ⟨u0,m0,J,t,qa,qc,ya,yc,Q,U,O,rfl,I,j,g⟩;obtain⟨mf,E,_⟩:=g.focus 0 rfl;rw[D6]at E;have hR:Cj N (.slice Q b.length U) (b.map Ae):=by
  unfold Cj;rw[<-J7];exact E.list t
 exact⟨qa,qc,ya,yc,Q,U,rfl,I.mono J,V9 (v:=.bool true) g j t,hR⟩
def Anb (h:Mv u (.agg #[.slice a1 T.length c1,.slice a2 R.length c2,.slice a3 F.length c3,.int .i64 l]) tv T R F (l:Int) ss)(O:G4 F (l:Int) ss=false){pa xa ra:Option Addr}{pc xc rc:Nat}
 (N:Ma u (.agg #[.slice pa P.length pc,.slice xa (P.length+1) xc,.slice ra (P.length+1) rc,.string (mkS (Ae s)),.string (mkS (Ae c)),.string (mkS (Ae q))]) P X b s c q) (t:P≠[]) (L:Ah3 P X b s c) (g:P.length<=900) (z:w≠0) (E:-1000000000000<=w) (H:w<=1000000000000) :
 Fn0 prog 57 [stV pa P.length pc xa xc ra rc s c q a1 T.length c1 a2 R.length c2 a3 F.length c3 (l:Int),tv,.int .i64 w] u fun r J=>∃ e,r=.tuple #[e,.int .i64 0]/\Ma J e P X b s c q:=by
 have j:=Ail (pa:=pa) (n:=P.length) (pc:=pc) (xa:=xa) (xc:=xc) (ra:=ra) (rc:=rc) (s:=s) (c:=c) (q:=q) (w:=w) h O z E H;have m:=fun (J:PH) (I:PH.le u J)=>Af7 (N.mono I) t L g;refine Fn0.o func57<|G.c call68 j ?_;rintro v1 W I rfl;refine G.nF 0 0<|G.c call86 (m W I) ?_;rintro v2 u2 l2 K;obtain⟨Q,qc,Y,Z,U,V,rfl,h1,h2,h3⟩:=id K;exact G.r (.tuple #[.agg #[.slice Q P.length qc,.slice Y X.length Z,.slice U b.length V,.string (mkS (Ae s)),.string (mkS (Ae c)),.string (mkS (Ae q))],.int .i64 0]) ⟨rfl,_,rfl,K⟩
def Aqi (F:List Al)(l:Nat)(P:List Par)(ss:List (List UInt8)):Prop:=G4 F (l:Int) ss=false\/Av5 F l P ss
def Sg {zv:Value}(ht:Hx u)(h:Mv u zv tv T R F (l:Int) ss)(E:Aqi F l P ss)(hS:Ma u sv P X b s c q)(V:H9 P C q X b s c)(hp:Td F P q)(K:P≠[])(hC:Ug P C)(H:Ug P (C.add ((cfT F (l:Int) ss).scale (w:Rat))))(h5:P.length<=5)(L:w≠0)(N:-1000000000000<=w)(O:w<=1000000000000) :
 Fn0 prog 15 [zv,sv,tv,.int .i64 w] u fun r Q=>∃ g m b' z t,r=.tuple #[g,.int .i64 0]/\Ma Q g P m b' z t q/\H9 P (C.add ((cfT F (l:Int) ss).scale (w:Rat))) q m b' z t:=by
 have U:=V.okF hp hC;have I:=U.n;have J:=U.bn;have j:∀ (pa xa ra a1 a2 a3:Option Addr) (pc xc rc c1 c2 c3:Nat),zv=.agg #[.slice a1 T.length c1,.slice a2 R.length c2,.slice a3 F.length c3,.int .i64 l]->sv=.agg #[.slice pa P.length pc,.slice xa (P.length+1) xc,.slice ra (P.length+1) rc,.string (mkS (Ae s)),.string (mkS (Ae c)),.string (mkS (Ae q))] ->
  Fn0 prog 57 [stV pa P.length pc xa xc ra rc s c q a1 T.length c1 a2 R.length c2 a3 F.length c3 (l:Int),tv,.int .i64 w] u fun r Q=>∃ g m b' z t,r=.tuple #[g,.int .i64 0]/\Ma Q g P m b' z t q/\H9 P (C.add ((cfT F (l:Int) ss).scale (w:Rat))) q m b' z t:=by
  rintro pa xa ra a1 a2 a3 pc xc rc c1 c2 c3 rfl rfl;rcases E with E|E
  ·refine Fn0.weak (Anb h E hS K U oV L N O) ?_;rintro r Q ⟨g,rfl,k⟩;refine⟨g,X,b,s,c,rfl,k,?_⟩;rw[Als (Awu h.ok h.fit E)];exact V
  have o:=Apr h.ok h.fit E.cnt;obtain⟨h1,Z⟩:=V.stepF hp o H;obtain⟨_,_,_,_,_,_,e,W,Y,k3⟩:=hS;rw[I]at e Y;rw[J]at e k3;cases e;refine Fn0.weak (Amb ht h E W Y k3 hp K U (V.light hp hC h5) h5 L N O h1 (Z.okF hp H)) ?_;rintro r Q ⟨g,rfl,k⟩;exact⟨g,_,_,_,_,rfl,k,Z⟩
 obtain⟨⟨a1,c1,a2,c2,a3,c3,rfl,_⟩,_⟩:=id h;obtain⟨pa,pc,xa,xc,ra,rc,rfl,_⟩:=id hS;rw[I,J]at j⊢;refine Fn0.o func15<|G.c call57 (j pa xa ra a1 a2 a3 pc xc rc c1 c2 c3 rfl rfl) ?_;rintro v1 u1 l1 ⟨g,m,b',z,t,rfl,W,Y⟩;obtain⟨qa,qc,ya,yc,sa,sc,rfl,h1,Z,h3⟩:=id W;exact G.r (.tuple #[.agg #[.slice qa P.length qc,.slice ya m.length yc,.slice sa b'.length sc,.string (mkS (Ae z)),.string (mkS (Ae t)),.string (mkS (Ae q))],.int .i64 0]) ⟨rfl,_,m,b',z,t,rfl,W,Y⟩
end
end
section
variable {v v':Value}
def Ad9 {u:PH}{L L':List Par}(h:Ac u v 2 (L.map Ap))(E:Ac u v' 2 (L'.map Ap))(hl:L.length<=1000000)(Z:L'.length<=1000000) :
 Fn0 prog 38 [v,v'] u fun r _=>r=.bool (decide (L=L')):=by
 obtain⟨a,c,rfl⟩:=h.opn;obtain⟨U,K,rfl⟩:=E.opn;rw[A03]at h E⊢;rw[A03];refine Fn0.o func38 ?_;by_cases hn:L.length=L'.length
 ·refine G.nF L.length L'.length<|G.l (ι:=Nat) (fun i=>[(0,sV a L.length c),(1,sV U L'.length K),(12,iV L.length),(13,iV i)]) (fun _=>[])
   (fun i u' N=>(i<=L.length/\L.take i=L'.take i)/\N=PH.mt) (fun i=>L.length-i) 0 ⟨⟨oV,mV⟩,rfl⟩ ?_
  rintro J k Y u' N m ⟨⟨hk,g⟩,rfl⟩;by_cases n:k<L.length
  ·refine G.lT k L.length ?_;obtain⟨p,hp⟩:∃ p,L[k]?=some p:=⟨_,A01 n⟩;obtain⟨q,z⟩:∃ q,L'[k]?=some q:=⟨_,A01 oV⟩;obtain⟨H,O,rfl,V⟩:=Ac.at' (h.mono m) (j:=k) (e:=Ap p) (by simp[hp]);obtain⟨I,Q,rfl,W⟩:=Ac.at' (E.mono m) (j:=k) (e:=Ap q) (by simp[z]);refine G.a H O L.length c k 2 n<|G.lU (some 2) H (O+k*2) (.agg #[.int .i64 p.1,.string (mkS p.2)]) V<|G.a I Q L'.length K k 2 oV<|G.lU (some 2) I (Q+k*2) (.agg #[.int .i64 q.1,.string (mkS q.2)]) W ?_;by_cases t:p=q
   ·exact G.neAgg 118 #[.int .i64 p.1,.string (mkS p.2)] #[.int .i64 q.1,.string (mkS q.2)] true kV kV kV (fun w=>by rw[<-decide_eq_true t];exact Bq.eq p q w)<|G.i k<|G.b (Y (k+1) _ _ _ cV m ⟨⟨oV,by rw[A1n,A1n,g,hp,z,t]⟩,rfl⟩ oV)
   exact G.neAgg 118 #[.int .i64 p.1,.string (mkS p.2)] #[.int .i64 q.1,.string (mkS q.2)] false kV kV kV (fun w=>by rw[<-decide_eq_false t];exact Bq.eq p q w)<|G.r (.bool false) ⟨rfl,by rw[decide_eq_false];rintro rfl;rw[hp]at z;cases z;exact t rfl⟩
  refine G.lF k L.length ?_;have:L=L':=by rw[A1j oV,A1j oV]at g;exact g
  exact G.r (.bool true) ⟨rfl,by simp[this]⟩
 exact G.nT L.length L'.length<|G.r (.bool false) ⟨rfl,by rw[decide_eq_false];rintro rfl;exact hn rfl⟩
def Amp {u:PH}{X:List (List Rat)}(h:C7 u v (Cv X))(j:C7 u v' (Cv X))(hl:X.length<=1000)(O:∀ r∈X,r.length<=1000) :
 Fn0 prog 19 [v,v'] u fun r _=>r=.bool true:=by
 obtain⟨a,c,rfl⟩:=h.opn;obtain⟨I,z,rfl⟩:=j.opn;rw[A3]at h j⊢;refine Fn0.o func19<|G.nF X.length X.length<|G.l (ι:=Nat) (fun i=>[(0,sV a X.length c),(1,sV I X.length z),(12,iV X.length),(13,iV i)]) (fun _=>[])
  (fun i u' U=>i<=X.length/\U=PH.mt) (fun i=>X.length-i) 0 ⟨oV,rfl⟩ ?_
 rintro J i N u1 m1 m ⟨hi,rfl⟩;by_cases e:i<X.length
 ·refine G.lT i X.length ?_;obtain⟨r,g⟩:∃ r,X[i]?=some r:=⟨_,A01 e⟩;have Q:=O r (A1k g);obtain⟨n,E,Y,c5,rfl,K,V⟩:=(h.mono m).row (Dw g);obtain⟨t,H,Z,c6,rfl,L,W⟩:=(j.mono m).row (Dw g);refine G.a n E X.length c i 1 e<|G.lU none n (E+i*1) _ K<|G.a t H X.length z i 1 e<|G.lU none t (H+i*1) _ L<|G.c call64 (Ag2 V W (by rw[A03];omega) (by rw[A03];omega)) ?_;rintro v2 u2 l2 rfl;rw[decide_eq_true rfl];exact G.i i<|G.b (N (i+1) _ _ _ cV (m.trans l2) ⟨oV,rfl⟩ oV)
 exact G.lF i X.length<|G.r (.bool true) ⟨rfl,rfl⟩
section
variable {u:PH} {sv sv':Value} {T:List (List UInt8×Nat)} {R:List Br} {F:List Al} {l:Nat} {P:List Par} {X:List (List Rat)} {b:List Rat} {s c q:Rat} {C:CF}
theorem Ah6 (h:Ma u sv P X b s c q)(h':Ma u sv' P X b s c q)(hP:P.length<=1000)(hX:X.length<=1000)(hr:∀ r∈X,r.length<=1000)(hb:b.length<=1000):Fn0 prog 20 [sv,sv'] u fun r _=>r=.bool true:=by
 obtain⟨pa,pc,xa,xc,ra,rc,rfl,h1,h2,h3⟩:=h;obtain⟨qa,qc,ya,yc,sa,sc,rfl,k1,k2,k3⟩:=h';refine Fn0.o func20 ?_;refine G.c call38 (Ad9 h1 k1 oV oV) ?_;rintro v1 u1 l1 rfl;rw[decide_eq_true rfl];refine G.c call19 (Amp (h2.mono l1) (k2.mono l1) hX hr) ?_;rintro v2 u2 l2 rfl;have l12:=l1.trans l2;refine G.c call64 (Ag2 (Ac.mono h3 l12) (Ac.mono k3 l12) (by rw[A03];omega) (by rw[A03];omega)) ?_;rintro v3 u3 l3 rfl;rw[decide_eq_true rfl];refine G.q (Ae s) (Ae s) rfl ?_;refine G.q (Ae c) (Ae c) rfl ?_;refine G.q (Ae q) (Ae q) rfl ?_;exact G.r (.bool true) ⟨rfl,rfl⟩
def T9 {j:List (List Rat)}{b':List Rat}{z m:Rat}(h:Ma u sv P X b s c q)(K:Ma u sv' P j b' z m q)(t:H9 P C q X b s c)(g:H9 P C q j b' z m)(hp:Td F P q)(L:Ug P C):Fn0 prog 20 [sv,sv'] u fun r _=>r=.bool true:=by
 obtain⟨E,H,I,J⟩:=t.uniq g;subst E H I J;have e:=t.okF hp L;have Q:=hp.le;have N:=e.n;have O:=e.bn;exact Ah6 h K oV oV (fun r U=>by rw[e.sq.row r U];omega) oV
def Vb {p t:Nat}(hp:p<=100000)(e:t<=100000):Fn0 prog 39 [.int .i64 p,.int .i64 t] u fun r _=>r=.bool (decide (t<=p/2+p%2)):=by
 refine Fn0.o func39<|G.hT p 0<|G.hT t 0<|G.quo (p:Int) 2 ((p/2:Nat):Int) kV oV oV oV oV<|G.rem (p:Int) 2 ((p%2:Nat):Int) kV oV oV oV oV<|G.p (p/2:Nat) (p%2:Nat) (p/2+p%2:Nat) ?_;by_cases h:t<=p/2+p%2
 ·exact G.kT t (p/2+p%2:Nat)<|G.r (.bool true) ⟨rfl,by rw[decide_eq_true h]⟩
 exact G.kF t (p/2+p%2:Nat)<|G.r (.bool false) ⟨rfl,by rw[decide_eq_false h]⟩
end
end
section
noncomputable def Oo (F:List Al)(lab:Int)(C:CF)(L:List Dm):CF:=L.foldl (fun C y=>C.add ((cfT F lab y.1).scale (y.2.1:Rat))) C
def Ano (F:List Al)(lab:Int)(L L':List Dm):Oo F lab (Cf F lab L) L'=Cf F lab (L++L'):=by unfold Cf Oo;rw[A5w]
def Wh {F:List Al}{lab:Int}{C:CF}{L:List Dm}{i:Nat}{y:Dm}(h:L[i]?=some y):Oo F lab C (L.take (i+1))=(Oo F lab C (L.take i)).add ((cfT F lab y.1).scale (y.2.1:Rat)):=by
 unfold Oo;rw[A1n,h,A5w];rfl
structure SI where
 i:Nat
 pa:Option Addr
 pc:Nat
 xa:Option Addr
 xc:Nat
 ra:Option Addr
 rc:Nat
 s:Rat
 c:Rat
section
variable {u:PH} {zv sv lv:Value} {T:List (List UInt8×Nat)} {R:List Br} {F:List Al} {l:Nat} {P:List Par} {X:List (List Rat)} {b:List Rat} {s c q:Rat} {C:CF} {L:List Dm}
def Aal (ht:Hx u)(hX:H5 u zv T R F (l:Int))(ok:Bl u T R F (l:Int))(hL:Ac u lv 2 (L.map F3))(hW:WOK u T L)(hk:∀ y∈L,Aqi F l P y.1)(z:Ma u sv P X b s c q)(t:H9 P C q X b s c)(hp:Td F P q)(O:P≠[])
 (Y:∀ n,n<=L.length->Ug P (Oo F (l:Int) C (L.take n))) (h5:P.length<=5) (hl:L.length<=1000) :
 Fn0 prog 34 [zv,sv,lv] u fun r u'=>∃ E U b' s' V,r=.tuple #[E,.int .i64 0]/\Ma u' E P U b' s' V q/\H9 P (Oo F (l:Int) C L) q U b' s' V:=by
 have W:=t.okF hp (Y 0 (A1t _));have h:=W.n;have m:=W.bn;have K:=Af7 z O W oV;obtain⟨a1,c1,a2,c2,a3,c3,rfl,_⟩:=id hX;obtain⟨pa,pc,xa,xc,ra,rc,rfl,_⟩:=id z;obtain⟨la,lc,rfl⟩:=hL.opn;rw[A03]at hL⊢;refine Fn0.o func34<|G.c call86 K ?_;rintro v1 u1 l1 k1;obtain⟨qa,qc,ya,yc,sa,sc,rfl,_⟩:=id k1;rw[h,m]at k1⊢;refine G.l (ι:=SI) (fun i=>[(3,.p 0 0),(4,.p 1 0),(6,.p 2 0),(14,sV la L.length lc),(15,iV L.length),(16,iV i.i)])
  (fun i=>[(0,⟨30,[sV a1 T.length c1,sV a2 R.length c2,sV a3 F.length c3,iV l]⟩),(1,⟨48,[sV i.pa P.length i.pc,sV i.xa (P.length+1) i.xc,sV i.ra (P.length+1) i.rc,tV (Ae i.s),tV (Ae i.c),tV (Ae q)]⟩),
   (2,⟨48,[.v (.slice none 0 0),.v (.slice none 0 0),.v (.slice none 0 0),.v (.string (mkS [])),.v (.string (mkS [])),.v (.string (mkS []))]⟩)])
  (fun i u' m'=>i.i<=L.length/\(∃ X b,Ma u' (.agg #[.slice i.pa P.length i.pc,.slice i.xa (P.length+1) i.xc,.slice i.ra (P.length+1) i.rc,.string (mkS (Ae i.s)),.string (mkS (Ae i.c)),.string (mkS (Ae q))]) P X b i.s i.c q/\H9 P (Oo F (l:Int) C (L.take i.i)) q X b i.s i.c)/\m'=PH.mt) (fun i=>L.length-i.i)
  ⟨0,qa,qc,ya,yc,sa,sc,s,c⟩ ⟨dV,⟨X,b,k1,t⟩,rfl⟩ ?_
 clear k1 t z K W h m;rintro J ⟨i,pa,pc,xa,xc,ra,rc,s,c⟩ hJ u2 m2 l2 ⟨hi,⟨X,b,z,t⟩,rfl⟩;simp only at hi z t hJ;have g:=l1.trans l2;by_cases N:i<L.length
 ·refine G.lT i L.length ?_;obtain⟨y,Z⟩:∃ y,L[i]?=some y:=⟨_,A01 N⟩;have Q:=A1k Z;obtain⟨a4,a5,a6,a7⟩:=hW y Q;obtain⟨bl,ol,rfl,e1⟩:=Ac.at' (hL.mono g) (j:=i) (e:=F3 y) (by simp[Z]);have I:=Y (i+1) oV;rw[Wh Z]at I;have a0:=Sg (w:=(y.2.1:Int)) (ht.mono g) ⟨hX.mono g,ok.mono g,a4.mono g,a5⟩ (hk y Q) z t hp O (Y i oV) (by rw[A2r];exact I) h5 oV oV oV;refine G.a bl ol L.length lc i 2 N<|G.lU (some 2) bl (ol+i*2) (.agg #[.slice y.2.2.1 y.1.length y.2.2.2,.int .i64 y.2.1]) e1<|G.c call15 a0 ?_;rintro v3 u3 l3 ⟨E,U,b',s',V,rfl,k3,n3⟩;rw[A2r,<-Wh Z]at n3;have H:=n3.okF hp (Y (i+1) oV);have h:=H.n;have m:=H.bn;obtain⟨qa,qc,ya,yc,sa,sc,rfl,_⟩:=id k3;rw[h,m]at k3⊢;exact G.nF 0 0<|G.i i<|G.b (hJ ⟨i+1,qa,qc,ya,yc,sa,sc,s',V⟩ _ _ _ cV (l2.trans l3) ⟨dV,⟨U,b',k3,n3⟩,rfl⟩ dV)
 obtain rfl:i=L.length:=oV;refine G.lF L.length L.length ?_;rw[A15]at t;exact G.r (.tuple #[.agg #[.slice pa P.length pc,.slice xa (P.length+1) xc,.slice ra (P.length+1) rc,.string (mkS (Ae s)),.string (mkS (Ae c)),.string (mkS (Ae q))],.int .i64 0]) ⟨rfl,_,X,b,s,c,rfl,z,t⟩
end
end
section
variable {i j:Nat}
def U9 (v p g:Int)(k:Nat)(R row:List Int):List Int:=(List.range row.length).map fun j=>if k<j then (gZ row j*p-g*gZ R j)/v else gZ row j
def Abe (v p g:Int)(k:Nat)(R row:List Int):(U9 v p g k R row).length=row.length:=by simp[U9]
def Afq {v p g:Int}{k:Nat}{R row:List Int}(h:j<row.length):gZ (U9 v p g k R row) j=if k<j then (gZ row j*p-g*gZ R j)/v else gZ row j:=by
 unfold U9;exact Abr _ h
def LdN (n k:Nat)(v:Int)(X Y:List (List Int))(i:Nat):Prop:=E8 n n Y/\∀ r,r<n->gMZ Y r=if k<r/\r<i then U9 v (enZ X k k) (enZ X r k) k (gMZ X k) (gMZ X r) else gMZ X r
def LdN.init {n k:Nat}{v:Int}{X:List (List Int)}(h:E8 n n X):LdN n k v X X (k+1):=⟨h,fun r e=>by rw[if_neg oV]⟩
def LdN.row {n k:Nat}{v:Int}{X Y:List (List Int)}(h:LdN n k v X Y i)(m:E8 n n X)(hi:i<n)(t:k<i):LdN n k v X (Y.set i (U9 v (enZ X k k) (enZ X i k) k (gMZ X k) (gMZ X i))) (i+1):=by
 refine⟨Lt h.1 hi (by rw[Abe];exact m.2 i hi),fun r u=>?_⟩;rw[Kv (by rw[h.1.1];exact hi)];by_cases e:i=r
 ·subst e;rw[if_pos rfl,if_pos ⟨t,oV⟩]
 rw[if_neg e,h.2 r u];by_cases g:k<r/\r<i
 ·rw[if_pos g,if_pos ⟨g.1,oV⟩]
 rw[if_neg g,if_neg oV]
def LdN.at {n k:Nat}{v:Int}{X Y:List (List Int)}(h:LdN n k v X Y n)(t:E8 n n X){i j:Nat}(hi:i<n)(u:j<n):enZ Y i j=if k<i/\k<j then (enZ X i j*enZ X k k-enZ X i k*enZ X k j)/v else enZ X i j:=by
 have m:=h.2 i hi;unfold enZ at m⊢;rw[m];by_cases e:k<i
 ·rw[if_pos ⟨e,hi⟩,Afq (by rw[t.2 i hi];exact u)];by_cases g:k<j
  ·rw[if_pos g,if_pos ⟨e,g⟩]
  rw[if_neg g,if_neg oV]
 rw[if_neg oV,if_neg oV]
structure Tc (n:Nat)(M:Nat->Nat->Int)(E k:Nat)(v:Int)(X:List (List Int)):Prop where
 rc:E8 n n X
 v0:0<v
 vs:nl v.natAbs<=zs E k
 sz:∀ i j,i<n->j<n->nl (enZ X i j).natAbs<=zs E k
 bar:∃ P S,Bar n M P k v S/\∀ i j,k<=i->i<n->k<=j->j<n->S i j=enZ X i j
 sch:∀ i j,k<=i->i<n->k<=j->j<n->(enZ X i j:Rat)=(v:Rat)*C6 (fun i j=>(M i j:Rat)) k i j
section
variable {n:Nat} {M:Nat->Nat->Int} {E k:Nat} {v:Int} {X Y:List (List Int)}
def Tc.init (m:E8 n n X)(h:∀ i j,i<n->j<n->enZ X i j=M i j)(t:∀ i j,i<n->j<n->nl (M i j).natAbs<=E)(g:1<=E):Tc n M E 0 1 X :=
 ⟨m,fV,A04 (nl1 (n:=1) oV) g,fun i j hi e=>by rw[h i j hi e];exact t i j hi e,⟨fun _=>0,M,Bar.init n M _,fun i j _ hi _ e=>(h i j hi e).symm⟩,
  fun i j _ hi _ e=>by rw[h i j hi e];show _=((1:Int):Rat)*(M i j:Rat);rw[show ((1:Int):Rat)=1 from rfl,Rat.one_mul]⟩
def Tc.piv (h:Tc n M E k v X)(z:∀ i k,i<n->k<n->(M i k:Rat)=(M k i:Rat))(hp:∀ x,(∃ i,i<n/\x i≠0)->0<frm n (fun i j=>(M i j:Rat)) x)(e:k<n):0<enZ X k k:=by
 have m:=h.sch k k (A08 _) e (A08 _) e;have t:=Akt z hp e;have u:(0:Rat)<(v:Rat):=by exact_mod_cast h.v0
 have g:=Rat.mul_pos u t;rw[<-m]at g
 exact_mod_cast g
def Tc.fit (h:Tc n M E k v X)(e:k<n)(hi:i<n)(g:j<n):nl (enZ X i j*enZ X k k).natAbs<=2*zs E k/\nl (enZ X i k*enZ X k j).natAbs<=2*zs E k/\nl (enZ X i j*enZ X k k-enZ X i k*enZ X k j).natAbs<=2*zs E k+1/\nl ((enZ X i j*enZ X k k-enZ X i k*enZ X k j)/v).natAbs<=2*zs E k+1 :=
 Vw (h.sz k k e e) (h.sz i k hi e) (h.sz i j hi g) (h.sz k j e g)
theorem Tc.step (h : Tc n M E k v X) (L : ∀ i k, i < n → k < n → (M i k : Rat) = (M k i : Rat)) (hp : ∀ x, (∃ i, i < n ∧ x i ≠ 0) → 0 < frm n (fun i j => (M i j : Rat)) x) (g : k < n) (R : LdN n k v X Y n) : Tc n M E (k + 1) (enZ X k k) Y := by
  have K := h.piv L hp g
  obtain ⟨P, S, Q, C⟩ := h.bar
  have u : S k k = enZ X k k := C k k (A08 _) g (A08 _) g
  have T : S k k ≠ 0 := by rw [u]; omega
  have hz : zs E (k + 1) = 2 * zs E k + 2 := rfl
  have H := fun (i j : Nat) (hi : i < n) (J : i ≠ k) => Q.dvdAll g T i j hi J
  have F := fun (i j : Nat) (hi : i < n) (I : j < n) => R.at h.rc hi I
  refine ⟨R.1, K, A04 (h.sz k k g g) oV, fun i j hi I => ?_, ⟨Kc P k k, fun i j => if i = k then S k j else (S i j * S k k - S i k * S k j) / v, ?_, fun i j Z m h3 t => ?_⟩, fun i j Z m h3 t => ?_⟩
  · rw [F i j hi I]
    split
    · have := (h.fit g hi I).2.2.2; omega
    have := h.sz i j hi I; omega
  · rw [← u]
    refine Q.step g T (fun j => by rw [if_pos rfl]) fun i hi J j => ?_
    rw [if_neg J]
    exact Int.mul_ediv_cancel' (H i j hi J)
  · dsimp only
    rw [if_neg oV, F i j m t, if_pos ⟨oV, by omega⟩, u, C i j oV m oV t, C i k oV m (A08 _) g, C k j (A08 _) g oV t]
  have U : v * enZ Y i j = enZ X i j * enZ X k k - enZ X i k * enZ X k j := by
    rw [F i j m t, if_pos ⟨oV, by omega⟩]
    refine Int.mul_ediv_cancel' ?_
    have := H i j m oV
    rwa [u, C i j oV m oV t, C i k oV m (A08 _) g, C k j (A08 _) g oV t] at this
  have O : (v : Rat) * (enZ Y i j : Rat) = (enZ X i j : Rat) * (enZ X k k : Rat) - (enZ X i k : Rat) * (enZ X k j : Rat) := by exact_mod_cast congrArg (fun z : Int => (z : Rat)) U
  have hv : (v : Rat) ≠ 0 := by have := h.v0; intro e; have : v = 0 := by exact_mod_cast e
                                omega
  have a0 := Akt L hp g
  have N := O9 L k j k t g
  rw [h.sch i j oV m oV t, h.sch k k (A08 _) g (A08 _) g, h.sch i k oV m (A08 _) g, h.sch k j (A08 _) g oV t] at O
  rw [h.sch k k (A08 _) g (A08 _) g]
  show _ = _ * (C6 _ k i j - C6 _ k i k / C6 _ k k k * (C6 _ k j k / C6 _ k k k) * C6 _ k k k)
  rw [N]
  generalize (enZ Y i j : Rat) = y at *
  generalize C6 (fun i j => (M i j : Rat)) k i j = a at *
  generalize C6 (fun i j => (M i j : Rat)) k i k = b at *
  generalize C6 (fun i j => (M i j : Rat)) k k j = c at *
  generalize C6 (fun i j => (M i j : Rat)) k k k = d at *
  have hd : d ≠ 0 := by grind
  have e3 : (v : Rat) * y = (v : Rat) * ((v : Rat) * (a * d - b * c)) := by rw [O]; grind
  have V : y = (v : Rat) * (a * d - b * c) := by grind
  rw [V]
  have W : b / d * (c / d) * d = b * c / d := by grind
  rw [W]
  have e6 : b * c / d * d = b * c := by grind
  generalize b * c / d = w at *
  grind
end
end
def Awg {u:PH}{k:Int}{f1 f2:N3}{fv:Value}:Fn0 prog 231 [.int .i64 k,nv f1,nv f2,fv] u fun r _=>r=.tuple #[]:=Fn0.o func231<|G.r (.tuple #[]) ⟨rfl,rfl⟩
def Bag.pre:∀ {l l':List Arr} {m:PH},Bag m (l++l')->Bag m l
 |[],_,_,_=>trivial
 |_::_,_,_,⟨m0,h1,h2⟩=>⟨m0,h1,Bag.pre h2⟩
def Bag.tl {m:PH}{x:Arr}{l:List Arr}(h:Bag m (x::l)):Bag m l:=Bag.pre (l':=[x]) (Bag.perm (A5r (l₁:=[x])) h)
def Axv {W:List Int}{j t:Nat}{x:Int}(h:j<W.length):gZ (W.set j x) t=if j=t then x else gZ W t:=by
 unfold gZ;rw[A02,A1z,A02];by_cases e:j=t
 ·subst e;simp[h]
 simp[e]
def Ay6 {A B:List Int}{n:Nat}(j:A.length=n)(m:B.length=n)(h:∀ t,t<n->gZ A t=gZ B t):A=B:=by
 refine A5l oV fun i e g=>?_;rw[<-Ol e,<-Ol g];exact h i oV
def Aou {u m:PH}{go n F E:Nat}{f:N3}{K:List (Value×List Value)}{X:List (List Int)}{M:Nat->Nat->Int}(hn:n<=12)(h0:0<n)(hL:Tc n M E 0 1 X)
 (hs:∀ i k,i<n->k<n->(M i k:Rat)=(M k i:Rat)) (hp:∀ x,(∃ i,i<n/\x i≠0)->0<frm n (fun i j=>(M i j:Rat)) x) (hE:∀ k,k<=n->zs E k<=1000000) (T:NAt u K X)
 (g:Bag m (oN (.slice (some ⟨go,0,none⟩) n F) K::K.map C3)) :
 Ag prog 230 [.agg #[.bool f.b,.slice f.a f.n f.c,.slice (some ⟨go,0,none⟩) n F],.func (.func 231) #[] #[]] u m fun r _ _=>r=.int .i64 n:=by
 refine Ag.o func230<|G.c call121 (Kf (z:=1) oV oV) ?_;intro v1 u1 l1 k1;obtain⟨f1,rfl⟩:=k1.opN;refine G.pastI<|G.pub 1003 185 [.slice (some ⟨go,0,none⟩) n F] kV kV ?_;intro N bw aj;have ag:Bag (m.upd N (.cells [Value.slice (some ⟨go,0,none⟩) n F].toArray 185 (0,0))) (Kq N 185 [.slice (some ⟨go,0,none⟩) n F]::oN (.slice (some ⟨go,0,none⟩) n F) K::K.map C3) :=
  ⟨m,R1 aj (fun x hx=>by simp at hx;subst hx;exact⟨rfl,rfl⟩),g⟩
 refine G.l (ι:=Nat×N3×Int×List (Value×List Value)×List (List Int)) (fun i=>[(1,.v (.func (.func 231) #[] #[])),(5,.v (.pointer (some ⟨N,0,none⟩))),(6,.p 1004 0),(15,iV n),(16,iV i.1)])
  (fun i=>[(1004,⟨141,Age i.2.1⟩)])
  (fun i u' m'=>i.1<=n/\Bi u' (nv i.2.1) i.2.2.1/\Tc n M E i.1 i.2.2.1 i.2.2.2.2/\NAt u' i.2.2.2.1 i.2.2.2.2/\Bag m' (Kq N 185 [.slice (some ⟨go,0,none⟩) n F]::oN (.slice (some ⟨go,0,none⟩) n F) i.2.2.2.1::i.2.2.2.1.map C3)) (fun i=>n-i.1)
  (0,f1,1,K,X) ⟨A1t _,k1,hL,T.mono l1,ag⟩ ?_
 clear ag g T hL k1;rintro J ⟨k,f2,v,R,Y⟩ hJ u2 m2 l2 ⟨hk,hv,hL,T,g⟩;simp only at hk hv hL T g hJ;by_cases C:k<n
 ·refine G.lT k n<|G.pastI<|G.pub 4001 3 [.int .i64 k] kV kV ?_;intro Q bx ak;have L:Bag (m2.upd Q (.cells [Value.int .i64 k].toArray 3 (0,0))) (Kq Q 3 [.int .i64 k]::Kq N 185 [.slice (some ⟨go,0,none⟩) n F]::oN (.slice (some ⟨go,0,none⟩) n F) R::R.map C3) :=
   ⟨m2,R1 ak (fun x hx=>by simp at hx;subst hx;exact⟨rfl,rfl⟩),g⟩
  clear g;generalize m2.upd Q _=m3 at L⊢;have hX:=hL.rc;have bs:=hE k oV;obtain⟨gk,ck,ek,bj,bh,b4,al,ah⟩:=Ur L T hX C h0;obtain⟨fp,p5,p6,p7⟩:=ah k C;have c2:=hL.piv hs hp C;have a3:=hL.sz;have ao:=a3 k k C C;refine G.lM none N 0 (.slice (some ⟨go,0,none⟩) n F) (Cg L (i:=1) (j:=0) rfl rfl)<|G.lM none Q 0 (.int .i64 k) (Cg L (i:=0) (j:=0) rfl rfl)<|G.a go 0 n F k 1 C<|G.lM none go (0+k*1) _ al<|G.lM none Q 0 (.int .i64 k) (Cg L (i:=0) (j:=0) rfl rfl)<|G.a gk 0 n ck k 2 C<|G.lM (some 2) gk (0+k*2) (nv fp) p7<|G.c call195 (N1 (p6) (A04 ao oV)) ?_;rintro v3 u3 l3 rfl;have bk:sgn (enZ Y k k)=1:=by unfold sgn;rw[if_neg oV,if_pos oV]
  rw[bk];refine G.kF 1 0<|G.lM none Q 0 (.int .i64 k) (Cg L (i:=0) (j:=0) rfl rfl)<|G.c call231 (Awg (k:=(k:Int)) (f1:=fp) (f2:=f2) (fv:=.func (.func 261) #[] #[.pointer (some ⟨N,0,none⟩),.pointer (some ⟨Q,0,none⟩)])) ?_;rintro v4 u4 l4 rfl;refine G.lM none Q 0 (.int .i64 k) (Cg L (i:=0) (j:=0) rfl rfl)<|G.i k<|G.l (ι:=Nat×List (Value×List Value)×List (List Int)) (fun i=>[(1,.v (.func (.func 231) #[] #[])),(5,.v (.pointer (some ⟨N,0,none⟩))),(6,.p 1004 0),(7,.v (.pointer (some ⟨Q,0,none⟩))),(8,.p 5007 0),(9,iV i.1),(15,iV n),(16,iV k)])
   (fun _=>[(1004,⟨141,Age f2⟩),(5007,⟨141,Age fp⟩)])
   (fun i u' m'=>k+1<=i.1/\i.1<=n/\LdN n k v Y i.2.2 i.1/\NAt u' i.2.1 i.2.2/\Bag m' (Kq Q 3 [.int .i64 k]::Kq N 185 [.slice (some ⟨go,0,none⟩) n F]::oN (.slice (some ⟨go,0,none⟩) n F) i.2.1::i.2.1.map C3)) (fun i=>n-i.1)
   (k+1,R,Y) ⟨A08 _,C,LdN.init hX,T.mono (l3.trans l4),L⟩ ?_
  clear L bj bh b4 al ah p5 p7 T;rintro J2 ⟨i,h,Z⟩ ae u5 m5 l5 ⟨bf,bd,hZ,T,g⟩;simp only at bf bd hZ T g ae;have a9:=hZ.1;have a7:=(l3.trans l4).trans l5;have bl:=hv.mono a7;have am:=p6.mono a7;refine G.lM none N 0 (.slice (some ⟨go,0,none⟩) n F) (Cg g (i:=1) (j:=0) rfl rfl) ?_;by_cases I:i<n
  ·refine G.lT i n<|G.lM none Q 0 (.int .i64 k) (Cg g (i:=0) (j:=0) rfl rfl)<|G.i k ?_;obtain⟨O,U,ei,ac,bz,b3,c0,bt⟩:=Ur g T a9 I h0;obtain⟨gs,cs,es,ap,c3,br,c1,b8⟩:=Ur g T a9 C h0;have bi:h.length=n:=by rw[T.1,a9.1]
   have b0:gMZ Z i=gMZ Y i:=by rw[hZ.2 i I,if_neg oV]
   have b1:gMZ Z k=gMZ Y k:=by rw[hZ.2 k C,if_neg oV]
   have a8:(gMZ Y i).length=n:=hX.2 i I;have ai:=fun (j:Nat) (hj:j<n)=>hL.fit C I hj;have bb:=a3 i k I C;have b6:∀ t,t<n->nl (enZ Y i t).natAbs<=zs E k:=fun t ht=>a3 i t I ht;have b7:∀ t,t<n->nl (enZ Y k t).natAbs<=zs E k:=fun t ht=>a3 k t C ht;refine G.l (ι:=Nat×List Value×List Int) (fun y=>[(1,.v (.func (.func 231) #[] #[])),(5,.v (.pointer (some ⟨N,0,none⟩))),(6,.p 1004 0),(7,.v (.pointer (some ⟨Q,0,none⟩))),(8,.p 5007 0),(9,iV i),(10,iV y.1),(15,iV n),(16,iV k)])
    (fun _=>[(1004,⟨141,Age f2⟩),(5007,⟨141,Age fp⟩)])
    (fun y u' m'=>k+1<=y.1/\y.1<=n/\y.2.2.length=n/\(∀ t,t<n->gZ y.2.2 t=if k<t/\t<y.1 then (enZ Y i t*enZ Y k k-enZ Y i k*enZ Y k t)/v else enZ Y i t)/\AtP Bi u' y.2.1 y.2.2 /\
     Bag m' (Kq Q 3 [.int .i64 k]::Kq N 185 [.slice (some ⟨go,0,none⟩) n F]::oN (.slice (some ⟨go,0,none⟩) n F) h::(h.set i (.slice (some ⟨O,0,none⟩) n U,y.2.1)).map C3)) (fun y=>n-y.1)
    (k+1,ei,gMZ Y i) ⟨A08 _,oV,a8,fun t ht=>by rw[if_neg oV];rfl,by rw[<-b0];exact b3,by rw[Ny ac];exact g⟩ ?_
   clear g;rintro J3 ⟨j,H,W⟩ af u6 m6 l6 ⟨bg,be,a2,hW,V,g⟩;simp only at bg be a2 hW V g af;have bu:H.length=n:=by rw[V.1,a2]
   have a0:(h.set i ((Value.slice (some ⟨O,0,none⟩) n U),H))[i]?=some ((Value.slice (some ⟨O,0,none⟩) n U),H):=by rw[A1z];simp[bi,I]
   have aa:(h.set i ((Value.slice (some ⟨O,0,none⟩) n U),H))[k]?=some (Value.slice (some ⟨gs,0,none⟩) n cs,es):=by rw[A1z,if_neg oV];exact ap
   refine G.lM none N 0 (.slice (some ⟨go,0,none⟩) n F) (Cg g (i:=1) (j:=0) rfl rfl) ?_;by_cases P:j<n
   ·refine G.lT j n ?_;have ab:ElP m6 go (0+i*1) (Value.slice (some ⟨O,0,none⟩) n U):=g.el 2 (x:=oN (.slice (some ⟨go,0,none⟩) n F) h) rfl rfl (by show (h.map (·.1))[i]?=_;rw[A1a,ac];rfl);have ba:ElP m6 go (0+k*1) (Value.slice (some ⟨gs,0,none⟩) n cs):=g.el 2 (x:=oN (.slice (some ⟨go,0,none⟩) n F) h) rfl rfl (by show (h.map (·.1))[k]?=_;rw[A1a,ap];rfl);obtain⟨e,e1,e2⟩:=V.at (j:=j) oV;obtain⟨fe,rfl⟩:=e2.opN;rw[<-Ol oV,hW j P,if_neg oV]at e2;obtain⟨d,d1,d2⟩:=V.at (j:=k) oV;obtain⟨fd,rfl⟩:=d2.opN;rw[<-Ol oV,hW k C,if_neg oV]at d2;obtain⟨fs,s5,s6,_⟩:=b8 j P;have b2:enZ Z k j=enZ Y k j:=by unfold enZ;rw[b1]
    rw[b2]at s6;have he:ElP m6 O (0+j*2) (nv fe):=g.el (i+3) (x:=C3 ((Value.slice (some ⟨O,0,none⟩) n U),H)) (F8 a0) rfl e1;have hd:ElP m6 O (0+k*2) (nv fd):=g.el (i+3) (x:=C3 ((Value.slice (some ⟨O,0,none⟩) n U),H)) (F8 a0) rfl d1;have b9:ElP m6 gs (0+j*2) (nv fs):=g.el (k+3) (x:=C3 (Value.slice (some ⟨gs,0,none⟩) n cs,es)) (F8 aa) rfl s5;refine G.lM none N 0 (.slice (some ⟨go,0,none⟩) n F) (Cg g (i:=1) (j:=0) rfl rfl)<|G.a go 0 n F i 1 I<|G.lM none go (0+i*1) _ ab<|G.lM none N 0 (.slice (some ⟨go,0,none⟩) n F) (Cg g (i:=1) (j:=0) rfl rfl)<|G.a go 0 n F i 1 I<|G.lM none go (0+i*1) _ ab<|G.a O 0 n U j 2 P<|G.lM (some 2) O (0+j*2) (nv fe) he<|G.lM none N 0 (.slice (some ⟨go,0,none⟩) n F) (Cg g (i:=1) (j:=0) rfl rfl)<|G.a go 0 n F i 1 I<|G.lM none go (0+i*1) _ ab<|G.lM none Q 0 (.int .i64 k) (Cg g (i:=0) (j:=0) rfl rfl)<|G.a O 0 n U k 2 C<|G.lM (some 2) O (0+k*2) (nv fd) hd<|G.lM none N 0 (.slice (some ⟨go,0,none⟩) n F) (Cg g (i:=1) (j:=0) rfl rfl)<|G.lM none Q 0 (.int .i64 k) (Cg g (i:=0) (j:=0) rfl rfl)<|G.a go 0 n F k 1 C<|G.lM none go (0+k*1) _ ba<|G.a gs 0 n cs j 2 P<|G.lM (some 2) gs (0+j*2) (nv fs) b9 ?_;obtain⟨z1,z2,z3,z4⟩:=ai j P;refine G.c call126 (Ea e2 (am.mono l6) (A04 (b6 j P) oV) (A04 ao oV)) ?_;intro ca c5 a1 au;obtain⟨bo,rfl⟩:=au.opN;refine G.c call126 (Ea (d2.mono a1) (((s6.mono l6)).mono a1) (A04 bb oV) (A04 (b7 j P) oV)) ?_;intro cb c6 a4 av;obtain⟨bp,rfl⟩:=av.opN;refine G.c call241 (Ac7 (au.mono a4) av (A04 z1 oV) (A04 z2 oV)) ?_;intro cc c7 ad aw;obtain⟨bq,rfl⟩:=aw.opN;have c4:=hL.v0;refine G.c call190 (M1 aw (bl.mono (((l6.trans a1).trans a4).trans ad)) (A04 z3 oV) (A04 hL.vs oV) oV) ?_;rintro cd c8 az ⟨ce,cg,rfl,ax,ay⟩;obtain⟨a6,rfl⟩:=ax.opN;obtain⟨bn,rfl⟩:=ay.opN;obtain⟨m0,aq,an⟩:=g.focus (i+3) (F8 a0);rw[Ack]at aq;refine G.a O 0 n U j 2 P<|G.storeA 2 m0 H O n U j (nv a6) kV aq oV rfl rfl ?_;intro bm ar;have a5:=an (C3 ((Value.slice (some ⟨O,0,none⟩) n U),H.set j (nv a6))) bm ar;rw[Afy,A6r]at a5;refine G.i j<|G.b (af (j+1,H.set j (nv a6),W.set j ((enZ Y i j*enZ Y k k-enZ Y i k*enZ Y k j)/v)) _ _ _ cV ((((l6.trans a1).trans a4).trans ad).trans az) ⟨dV,dV,by simpa using a2,fun t ht=>?_,?_,a5⟩ dV)
    ·dsimp only;rw[Axv oV];by_cases e:j=t
     ·subst e;rw[if_pos rfl,if_pos ⟨oV,oV⟩]
     rw[if_neg e,hW t ht];by_cases e3:k<t/\t<j
     ·rw[if_pos e3,if_pos ⟨e3.1,oV⟩]
     rw[if_neg e3,if_neg oV]
    exact (V.mono (fun _ _ k=>k.mono (((a1.trans a4).trans ad).trans az))).set j ax
   obtain rfl:j=n:=oV;refine G.lF j j ?_;have b5:W=U9 v (enZ Y k k) (enZ Y i k) k (gMZ Y k) (gMZ Y i):=Ay6 a2 (by rw[Abe];exact a8) fun t ht=>by
    rw[hW t ht,Afq (by rw[a8];exact ht)];by_cases e:k<t
    ·rw[if_pos ⟨e,ht⟩,if_pos e];rfl
    rw[if_neg oV,if_neg e];rfl
   subst b5;rw[<-Aq8 (es':=H) ac]at g;exact G.i i<|G.b (ae (i+1,h.set i ((Value.slice (some ⟨O,0,none⟩) j U),H),Z.set i (U9 v (enZ Y k k) (enZ Y i k) k (gMZ Y k) (gMZ Y i))) _ _ _ cV (l5.trans l6) ⟨dV,dV,hZ.row hX I oV,(T.mono l6).set oV V,g⟩ dV)
  obtain rfl:i=n:=oV;exact G.lF i i<|G.i k<|G.b (hJ (k+1,fp,enZ Y k k,h,Z) _ _ _ cV (l2.trans a7) ⟨dV,am,hL.step hs hp C hZ,T,g.tl⟩ dV)
 obtain rfl:k=n:=oV;exact G.lF k k<|G.lM none N 0 (.slice (some ⟨go,0,none⟩) k F) (Cg g (i:=0) (j:=0) rfl rfl)<|G.r (.int .i64 k) rfl
section
variable {A:List (List Rat)}{u:PH}{v:Value}
theorem Amv {n:Nat}{S A:Nat->Nat->Rat}{d:Rat}(h:∀ i k,i<n->k<n->S i k=A i k*d)(x:Nat->Rat):frm n S x=d*frm n A x:=by
 unfold frm;rw[<-B4];refine Ah fun i hi=>?_;have e:Bb n (fun k=>S i k*x k)=d*Bb n fun k=>A i k*x k:=by
  rw[<-B4];exact Ah fun k g=>by rw[h i k hi g];grind
 rw[e];grind
structure PdM (A:List (List Rat)):Prop where
 sq:Sq A
 n0:0<A.length
 n6:A.length<=6
 sy:Avc A
 lt:∃ L,Y5 A L 86
 pd:∀ x,(∃ i,i<A.length/\x i≠0)->0<frm A.length (en A) x
def Avc.en {A:List (List Rat)}(h:Avc A)(m:Sq A){i k:Nat}(hi:i<A.length)(e:k<A.length):en A i k=en A k i:=by
 have g:k<A[i].length:=by rw[m.len hi];exact e
 have j:i<A[k].length:=by rw[m.len e];exact hi
 unfold Go.Proofs.YtemmheaocgmebaaGreatDoor.en;rw[Ch hi,Ch e,Cu g,Cu j];exact h i k hi e g j
def Avr (h:C7 u v (Cv A))(F:PdM A):Fn0 prog 180 [v] u fun r _=>r=.int .i64 A.length:=by
 obtain⟨L,P⟩:=F.lt;have C:=F.sq;have O:=C.le;have h0:=F.n0;have R:=C.tx;have W:∀ r∈A,r.length<=12:=fun r V=>by rw[C.row r V];exact O
 refine Fn0.o func180<|G.callO _ _ kV call120 (Akc h R oV (fun r V=>by have:=W r V;omega) P.den P.pos P.nl) ?_;rintro v6 u6 m6 l6 ⟨D,Z,a6,c6,E,H,Q,J,rfl,a0,K,m⟩ _;rw[By];have n:E.length=A.length:=by rw[K.1];simp
 obtain⟨go,co,X⟩:=m.ptr 0 rfl (by intro e;simp only[oN,A6c]at e;rw[e]at n;simp at n;omega);simp only[oN,A03,n,Value.slice.injEq,true_and]at X;obtain⟨rfl,rfl⟩:=X;have N:∀ i,i<A.length->gMZ (A.map (Bp D)) i=Bp D (gM A i):=fun i hi=>by rw[Xj (by simpa using hi),A3v,Ch hi]
 have z:=fun (i k:Nat) (hi:i<A.length) (t:k<A.length)=>Ak4 (i:=i) (k:=k) C J hi t;have U:Tc A.length (Oq D A) 86 0 1 (A.map (Bp D)):=by
  refine Tc.init ⟨mV,fun i hi=>?_⟩ (fun i j hi Y=>?_) (fun i j hi Y=>?_) oV
  ·rw[N i hi];unfold Bp;rw[A03,Ch hi,C.len hi]
  ·unfold enZ Oq;rw[N i hi]
  have T:j<(gM A i).length:=by rw[Ch hi,C.len hi];exact Y
  unfold Oq;rw[Wf T];exact Yp ((P.dig D Q H).2 _ (Abw hi) _ (Xr T) (J _ (Abw hi) _ (Xr T)))
 have I:(0:Rat)<(D:Rat):=by exact_mod_cast H
 refine G.A call230 (Aou (f:=Z) O h0 U (fun i k hi t=>by rw[<-z i k hi t,<-z k i t hi,F.sy.en C hi t]) (fun x hx=>by
  rw[Amv (A:=en A) (d:=(D:Rat)) (fun i k hi t=>(z i k hi t).symm)];exact Rat.mul_pos I (F.pd x hx)) (fun k t=>A04 (Aqf 86 (show k<=12 by omega)) fV) K m) ?_
 rintro v7 u7 m7 l7 rfl _;rw[By];exact G.drop PH.mt kV (fun g o ho=>by cases ho)<|G.r (.int .i64 A.length) ⟨rfl,rfl⟩
def Amx (z:Hx u)(h:C7 u v (Cv A))(e:PdM A):Fn0 prog 179 [v] u fun r _=>r=.int .i64 0:=by
 obtain⟨L,g⟩:=e.lt;have j:=e.sq;have n:=e.n6;refine Fn0.o func179<|G.c call186 (Adf h j) ?_;rintro I E m rfl;refine G.nF 0 0<|G.c call229 (Aiy (h.mono m) j e.sy) ?_;rintro J F l2 rfl;refine G.c call119 (Aie (N:=6) (K:=86) (z.mono (m.trans l2)) (h.mono (m.trans l2)) j.tx n (fun r t=>by rw[j.row r t];exact n) oV oV oV g.den g.pos g.nl g.dig) ?_;rintro O H C rfl;exact G.r (.int .i64 0) ⟨rfl,rfl⟩
def Ab0 (m:Hx u)(h:C7 u v (Cv A))(g:PdM A):Fn0 prog 102 [v] u fun r _=>r=.tuple #[.bool true,.int .i64 0]:=by
 have j:=fun (e:PH) (l:PH.le u e)=>Amx (m.mono l) (h.mono l) g;have hp:=fun (e:PH) (l:PH.le u e)=>Avr (h.mono l) g;obtain⟨a,c,rfl⟩:=h.opn;rw[A3]at h j hp⊢;refine Fn0.o func102<|G.c call179 (j _ (PH.le_refl _)) ?_;rintro C t n rfl;refine G.nF 0 0<|G.c call180 (hp _ n) ?_;rintro E z l2 rfl;exact G.eT A.length A.length<|G.r (.tuple #[.bool true,.int .i64 0]) ⟨rfl,rfl⟩
end
section
variable {C:CF}{P:List Par}{X:List (List Rat)}{q:Rat}
def At5 {u:PH}{v:Value}(z:Ac u v 2 (P.map Ap))(Q:Hb Bk P)(V:P.length<=1000000) :
 Fn0 prog 99 [v] u fun r _=>r=.bool true:=by
 obtain⟨pa,pc,rfl⟩:=z.opn;rw[A03]at z⊢;refine Fn0.o func99<|G.l (ι:=Nat) (fun i=>[(0,sV pa P.length pc),(3,iV i)]) (fun _=>[])
  (fun i Y T=>1<=i/\T=PH.mt) (fun i=>P.length-i) 1 ⟨oV,rfl⟩ ?_
 rintro J i O Z W l2 ⟨hi,rfl⟩;by_cases g:i<P.length
 ·refine G.lT i P.length ?_;have m:=z.mono l2;have E:P[i]?=some P[i]:=A01 g;have F:P[i-1]?=some (P[i-1]'oV):=A01 oV;have H:Bk (P[i-1]'oV) P[i]<0:=A3n.1 Q (i-1) i oV g oV;obtain⟨n,t,I,L⟩:=Ac.at' m (j:=i) (e:=Ap P[i]) (by simp[E]);obtain⟨K,U,h,N⟩:=Ac.at' m (j:=i-1) (e:=Ap (P[i-1]'oV)) (by simp[F]);rw[I]at h;cases h;subst I;refine G.s i 1 (i-1:Nat)<|G.a n t P.length pc (i-1) 2 oV<|G.lU (some 2) n (t+(i-1)*2) (Ap (P[i-1]'oV)) N<|G.a n t P.length pc i 2 g<|G.lU (some 2) n (t+i*2) (Ap P[i]) L<|G.c call127 (Re _ _ true (decide_eq_true H)) ?_;rintro v3 u3 R rfl;exact G.i i<|G.b (O (i+1) _ _ _ cV (l2.trans R) ⟨oV,rfl⟩ oV)
 exact G.lF i P.length<|G.r (.bool true) ⟨rfl,rfl⟩
def H6.frmX (h:H6 P C q X)(j:0<q)(g:0<C.c)(hp:∀ z,0<=Dh z P C)(e:P.Nodup)(x:Nat->Rat)(m:∃ i,i<P.length+1/\x i≠0):0<frm (P.length+1) (en X) x :=
 Avk (Tg Mn h.inv) (fun y n=>Axs j g hp e y n) m
def H9.pdm {F:List Al}{b:List Rat}{s c:Rat}(h:H9 P C q X b s c)(hp:Td F P q)(g:Ug P C)(z:P.length<=5):PdM X:=by
 have j:=h.okF hp g;have H:=j.n;refine⟨j.sq,oV,oV,fun i k hi E t u=>?_,h.light hp g z,fun x m=>?_⟩
 ·have e:=Ak9 Mn h.inv.inv i k oV oV;unfold en at e;rw[Ch hi,Ch E,Cu t,Cu u]at e;exact e
 rw[H]at m⊢;exact h.inv.frmX hp.pen.pos g.pos g.psd (hp.srt.nodup Et) x m
def Anl {u:PH}{U Q:Value}{T:List (List UInt8×Nat)}{R:List Br}{F:List Al}{l:Nat}{P:List Par}{X:List (List Rat)}{b:List Rat}{s c q:Rat}{C:CF}
 (ht:Hx u) (O:H5 u U T R F (l:Int)) (ok:Bl u T R F (l:Int)) (H:Ma u Q P X b s c q) (E:H9 P C q X b s c) (hp:Td F P q) (z:Ug P C) (V:P.length<=5) :
 Fn0 prog 43 [U,Q] u fun r _=>r=.bool true:=by
 have g:=E.okF hp z;have e:=g.n;have h:=g.bn;have I:=Adn O ok;obtain⟨a1,c1,a2,c2,a3,c3,rfl,_⟩:=id O;obtain⟨pa,pc,xa,xc,ra,rc,rfl,W,t,N⟩:=id H;rw[e]at t H;rw[h]at N H;rw[e,h];refine Fn0.o func43<|G.c call98 I ?_;rintro v1 u1 j rfl;refine G.nF 0 0<|G.c call99 (At5 (W.mono j) hp.srt oV) ?_;rintro v2 u2 l2 rfl;refine G.c call100 (Xy (pa:=pa) (n:=P.length) (pc:=pc) (xa:=xa) (xc:=xc) (ra:=ra) (rc:=rc) (s:=s) (c:=c) (q:=q) (a1:=a1) (n1:=T.length) (c1:=c1) (a2:=a2) (n2:=R.length) (c2:=c2) (a3:=a3) (n3:=F.length) (c3:=c3) (lab:=(l:Int)) (t.mono (j.trans l2)) e (fun r K=>by rw[g.sq.row r K,e]) oV) ?_;rintro v3 u3 L rfl;refine G.c call101 (Uw (pa:=pa) (n:=P.length) (pc:=pc) (xa:=xa) (xc:=xc) (ra:=ra) (rc:=rc) (s:=s) (c:=c) (q:=q) (a1:=a1) (n1:=T.length) (c1:=c1) (a2:=a2) (n2:=R.length) (c2:=c2) (a3:=a3) (n3:=F.length) (c3:=c3) (lab:=(l:Int)) (t.mono ((j.trans l2).trans L)) (N.mono ((j.trans l2).trans L)) e (fun r K=>by rw[g.sq.row r K,e]) h g.sq.tx g.bt g.st g.ct hp.pen.tx oV) ?_;rintro v4 u4 l4 rfl;have m:=((j.trans l2).trans L).trans l4;have J:=Ab0 (ht.mono m) (t.mono m) (E.pdm hp z V);refine G.c call102 J ?_;rintro v5 u5 l5 rfl;have Y:sgn c.num=1:=C5 (R4 (by rw[E.ct];exact z.pos));have Z:sgn q.num=1:=C5 (R4 hp.pen.pos);refine G.eT 0 0<|G.c call103 (S7 g.ct) ?_;rintro v6 u6 l6 rfl;refine G.gT (sgn c.num) 0<|G.c call103 (S7 hp.pen.tx) ?_;rintro v7 u7 l7 rfl;exact G.gT (sgn q.num) 0<|G.r (.bool true) ⟨rfl,rfl⟩
end
section
variable {g:Nat}{u:PH}
def Vi:List (List UInt8×Nat):=[([120],2),([121],2)]
def Zt (g:Nat):List Br:=[([114],[0,1],(some ⟨g,0,none⟩,2))]
def Jc:List Al:=[(0,1,0)]
def Azf (h:Ac u (.slice (some ⟨g,0,none⟩) 2 2) 1 (Ai [0,1])):Bl u Vi (Zt g) Jc 1 where
 att:=⟨Sc jV,fun a j=>by simp[Vi]at j;rcases j with rfl|rfl<;>decide⟩
 rel:=⟨Sc (by show (([[114]]:List (List UInt8)).all Hn&&decide ([[114]]:List (List UInt8)).Nodup)=true;decide +kernel),fun r e=>by simp[Zt]at e;subst e;simp,fun r e a j=>by simp[Zt]at e;subst e;simp at j;show a<2;omega,fun r e=>by simp[Zt]at e;subst e;simp,fun r e k x y n m=>by
  simp[Zt]at e;subst e
  match k,n,m with
  |0,n,m=>simp at n m;omega
  |k+1,n,m=>simp at m,fun a j=>⟨_,A12.2 rfl,by
  have:a<2:=j;simp;omega⟩,fun r e=>by simp[Zt]at e;subst e;exact h⟩
 feat:=⟨fun f t=>by
  simp[Jc]at t;subst t;exact⟨[120],2,rfl,.inl ⟨rfl,rfl,fV⟩,fV⟩,fV⟩
 t1:=fV
 t2:=fV
 r1:=by show 0<1;omega
 r2:=by show 1<=6;omega
 f2:=fV
 l1:=fV
 l2:=fun l z=>by
  have:l=1:=oV
  subst this;exact⟨[121],rfl⟩
def Ajf:Bw Vi [[49],[50]]:=⟨rfl,fun i x t e h=>by
 match i,e,h with
 |0,e,h=>cases e;cases h;exact .inr (.inr (.inr ⟨rfl,1,I7,jV⟩))
 |1,e,h=>cases e;cases h;exact .inr (.inr (.inr ⟨rfl,2,Au1,jV⟩))
 |i+2,e,h=>simp[Vi]at e⟩
def Abn:Bw Vi [[48],[52]]:=⟨rfl,fun i x t e h=>by
 match i,e,h with
 |0,e,h=>cases e;cases h;exact .inr (.inr (.inr ⟨rfl,0,⟨jV,jV⟩,jV⟩))
 |1,e,h=>cases e;cases h;exact .inr (.inr (.inr ⟨rfl,4,⟨jV,jV⟩,jV⟩))
 |i+2,e,h=>simp[Vi]at e⟩
def Ad2:List Par:=[((0:Int),[])]
def Ai2 (C:CF):Nn Jc C Ad2:=⟨A6f _ _,fun p=>by
 constructor
 ·intro h;have:p=(0,[]):=by simpa[Ad2] using h
  subst this;exact .inl ⟨0,(0,1,0),rfl,rfl,rfl⟩
 rintro (⟨i,f,rfl,hf,_⟩|⟨_,i,f,_,hf,h2⟩)
 ·have:i<1:=(A05.1 hf).1;have:i=0:=oV;subst this;exact A12.2 rfl
 have:i<1:=(A05.1 hf).1;have:i=0:=oV;subst this;cases hf;simp at h2⟩
def Ws:Fd 1:=⟨jV,⟨30,jV,fV⟩,I7.tx⟩
def Qr (g:Nat):List Dm:=[([[49],[50]],1,(some ⟨g,0,none⟩,2))]
def Ml (g h:Nat):List Dm:=[([[49],[50]],1,(some ⟨g,0,none⟩,2)),([[48],[52]],1,(some ⟨h,0,none⟩,2))]
def Apl (g h e:Nat):Cf Jc 1 (Ml g h)=(Cf Jc 1 (Qr e)).add ((cfT Jc 1 [[48],[52]]).scale ((1:Int):Rat)):=rfl
def Ays:Av5 Jc 1 Ad2 [[48],[52]]:=⟨jV,jV⟩
def Azq (ok:Bl u Vi (Zt g) Jc 1)(h:Nat):0<(Cf Jc 1 (Qr h)).c:=by
 have o:=Apr ok Ajf jV;have e:Cf Jc 1 (Qr h)=(CF.num 0).add ((cfT Jc 1 [[49],[50]]).scale ((1:Nat):Rat)):=rfl;rw[e];show 0<0+(cfT Jc 1 [[49],[50]]).c*((1:Nat):Rat);rw[o.c];decide +kernel
theorem Azp (ok:Bl u Vi (Zt g) Jc 1)(e h:Nat):0<(Cf Jc 1 (Ml e h)).c:=by
 have o:=Apr ok Abn jV;have j:=Azq ok e;rw[Apl e h e];show 0<(Cf Jc 1 (Qr e)).c+(cfT Jc 1 [[48],[52]]).c*((1:Int):Rat);rw[o.c];have:(0:Rat)<1*((1:Int):Rat):=jV
 grind
end
def Ld {u:PH}{v:Value}{T:List (List UInt8×Nat)}{R:List Br}{F:List Al}{lab:Int}{a:Option Addr}{c:Nat}{L:List Dm}(X:H5 u v T R F lab)(ok:Bl u T R F lab)(H:T.length<=8)(hL:Ac u (.slice a L.length c) 2 (L.map F3))(hW:WOK u T L)(hl:L.length<=12) :
 Fn0 prog 11 [v,.slice a L.length c] u fun r N=>Azl N r (Cf F lab L) (255*L.length):=by
 have Y:=fun (N:PH) (l:PH.le u N)=>T2 (X.mono l) (ok.mono l);obtain⟨xa,xc,xb,xd,xe,xf,rfl,ah,ag,af⟩:=id X;have ai:=Awp H;have I:∀ n,∀ y∈L.take n,Bw T y.1/\y.2.1<=7:=fun n y hy=>by
  obtain⟨_,q1,_,q2⟩:=hW y (A27 hy);exact⟨q1,q2⟩
 have g:∀ n,CFS (Cf F lab (L.take n)):=fun n=>(Aee ok H (I n) (by rw[A1e];omega)).1;refine Fn0.o func11<|G.c call45 (Y u (PH.le_refl _)) ?_;rintro v1 u1 l1 rfl;refine G.nF 0 0<|G.gF L.length 2000<|G.callO _ _ kV call46 (Jm (n:=0) oV oV) ?_;intro v2 u2 m2 l2 k2 _;rw[By];have n0:(⟨((0:Int):Rat),fun _=>0,fun _=>0⟩:CF)=CF.num 0:=by rw[show ((0:Int):Rat)=0 by decide +kernel];rfl
 rw[n0]at k2;obtain⟨b,a2,n,c2,b',a',n',c',g1,g2,rfl⟩:=Oe k2;refine G.l (ι:=Nat×(Bool×SlI)×(Bool×SlI)×Nat×Nat) (fun i=>[(2,.p 0 0),(4,.p 1 0),(7,.p 6001 0),(22,sV a L.length c),(23,iV L.length),(24,iV i.1)])
  (fun i=>[(0,⟨30,[sV xa T.length xc,sV xb R.length xd,sV xe F.length xf,iV lab]⟩),(1,⟨38,[tV [],sV none 0 0,sV none 0 0]⟩),(6001,⟨108,[bV i.2.1.1,sV i.2.1.2.1 i.2.1.2.2.1 i.2.1.2.2.2,bV i.2.2.1.1,sV i.2.2.1.2.1 i.2.2.1.2.2.1 i.2.2.1.2.2.2,.v (.map (some i.2.2.2.1)),.v (.map (some i.2.2.2.2))]⟩)])
  (fun i N m'=>i.1<=L.length/\Kk m' N (.agg #[.bool i.2.1.1,.slice i.2.1.2.1 i.2.1.2.2.1 i.2.1.2.2.2,.bool i.2.2.1.1,.slice i.2.2.1.2.1 i.2.2.1.2.2.1 i.2.2.1.2.2.2,.map (some i.2.2.2.1),.map (some i.2.2.2.2)]) (Cf F lab (L.take i.1)) (255*i.1))
  (fun i=>L.length-i.1) (0,(b,a2,n,c2),(b',a',n',c'),g1,g2) ⟨oV,k2⟩ ?_
 rintro J ⟨i,⟨b,a2,n,c2⟩,⟨b',a',n',c'⟩,g1,g2⟩ hJ u3 m3 l3 ⟨hi,O⟩;simp only at hi O hJ;have C:=(l1.trans l2).trans l3;by_cases K:i<L.length
 ·refine G.lT i L.length ?_;obtain⟨y,m⟩:∃ y,L[i]?=some y:=⟨_,A01 K⟩;obtain⟨hS,hT,a0,t⟩:=hW y (A1k m);obtain⟨ba,oa,rfl,ea⟩:=Ac.at' (hL.mono C) (j:=i) (e:=F3 y) (by simp[m]);obtain⟨ss,w,ya,yc⟩:=y;simp only at hS hT a0 t;have Z:L.take (i+1)=L.take i++[(ss,w,ya,yc)]:=by rw[A1n,m];rfl
  have hP:Mv u (.agg #[.slice xa T.length xc,.slice xb R.length xd,.slice xe F.length xf,.int .i64 lab]) (.slice ya ss.length yc) T R F lab ss:=⟨X,ok,hS,hT⟩;have a4:=hT.len;obtain⟨d1,d2⟩:=Apv ok hT;have sK:CFS ((cfT F lab ss).scale (w:Rat)):=(d1.scale (Auv t)).cfs oV oV;have h:Cf F lab (L.take (i+1))=(Cf F lab (L.take i)).add ((cfT F lab ss).scale (w:Rat)):=by rw[Z,Eb]
  refine G.a ba oa L.length c i 2 K<|G.lU (some 2) ba (oa+i*2) (.agg #[.slice ya ss.length yc,.int .i64 w]) ea<|G.c call47 (Anz (hP.mono C)) ?_;rintro v4 u4 l4 rfl;refine G.nF 0 0<|G.lF w (-1000000000000)<|G.gF w 1000000000000<|G.c call49 (Arh (hP.mono (C.trans l4)) oV) ?_;rintro v5 u5 l5 ⟨k5,sF⟩;obtain⟨b5,a5,n5,c5,aa,a8,aj,ab,ad,ae,rfl⟩:=Sw k5;refine G.c call22 (P6 (z:=(w:Int)) oV oV) ?_;intro v6 u6 l6 k6;rw[A2r]at k6;obtain⟨b6,a6,n6,c6,a9,ak,ac,rfl,_⟩:=k6.opn;have a1:SB (w:Rat):=(Auv t).small oV oV;refine G.callA _ _ kV kV call48 (By m3).symm (Ef m3)
   (Ar1 (((O.grow l4).grow l5).grow l6) (k5.mono l6) k6 a1 (g i) sF sK (by rw[<-h];exact g (i+1))) ?_
  intro v7 u7 m7 l7 E _;rw[<-h]at E;rw[By];obtain⟨b7,a7,n7,c7,Q,P,a3,U,V,W,rfl⟩:=Oe E;exact G.i i<|G.b (hJ (i+1,(b7,a7,n7,c7),(Q,P,a3,U),V,W) _ _ _ cV ((((l3.trans l4).trans l5).trans l6).trans l7) ⟨dV,E.congr rfl dV⟩ dV)
 obtain rfl:i=L.length:=oV;refine G.lF L.length L.length ?_;have hc:=g L.length;rw[A15]at O hc;refine G.callK _ _ kV call50 (Aod O.i hc oV) ?_;rintro v7 u7 l7 ⟨r,rfl,E⟩;obtain⟨e1,f1,h1,e2,f2,h2,rfl⟩:=E.opn;exact G.drop PH.mt kV (PH.mt_le _)<|G.r (.tuple #[.agg #[.string (mkS (Ae (Cf F lab L).c)),.slice e1 f1 h1,.slice e2 f2 h2],.int .i64 0]) ⟨rfl,_,rfl,E⟩
def Ahv {u:PH}(ht:Hx u):Fn0 prog 8 [] u fun r _=>r=.bool true:=by
 refine Fn0.o func8<|G.buildU 96 2 24 (.agg #[.string (mkS []),.int .i64 0]) [.agg #[.string (mkS [120]),.int .i64 (2:Nat)],.agg #[.string (mkS [121]),.int .i64 (2:Nat)]] kV (fun x F=>by
  simp only[A1g,A11,or_false]at F;rcases F with rfl|rfl<;>exact⟨rfl,A1o.1 rfl⟩) rfl oV mV mV ?_
 intro g1 u1 l1 e1;refine G.B 3 1 8 (.int .i64 0) [.int .i64 (0:Nat),.int .i64 (1:Nat)] (Av [0,1]) ?_;intro g2 u2 l2 e2;refine G.buildU 98 2 40 (.agg #[.string (mkS []),.slice none 0 0]) [.agg #[.string (mkS [114]),.slice (some ⟨g2,0,none⟩) 2 2]] kV (fun x F=>by
  simp only[A1g,A11,or_false]at F;subst F;exact⟨rfl,A1o.1 rfl⟩) rfl oV mV mV ?_
 intro g3 u3 l3 e3;refine G.buildU 100 3 24 (.agg #[.int .i64 0,.int .i64 0,.int .i64 0]) [.agg #[.int .i64 (0:Nat),.int .i64 (1:Nat),.int .i64 (0:Nat)]] kV (fun x F=>by
  simp only[A1g,A11,or_false]at F;subst F;exact⟨rfl,A1o.1 rfl⟩) rfl oV mV mV ?_
 intro g4 u4 l4 e4;have hX:H5 u4 (.agg #[.slice (some ⟨g1,0,none⟩) 2 2,.slice (some ⟨g3,0,none⟩) 1 1,.slice (some ⟨g4,0,none⟩) 1 1,.int .i64 1]) Vi (Zt g2) Jc ((1:Nat):Int) :=
  ⟨_,_,_,_,_,_,rfl,e1.listP.mono ((l2.trans l3).trans l4),e3.listP.mono l4,e4.listP⟩
 have g:Bl u4 Vi (Zt g2) Jc ((1:Nat):Int):=Azf (e2.listP.mono (l3.trans l4));have am:=ht.mono (((l1.trans l2).trans l3).trans l4);clear e1 e2 e3 e4;refine G.B 9 1 16 (.string (mkS [])) [.string (mkS [49]),.string (mkS [50])] (G6 [[49],[50]]) ?_;intro N u5 l5 e5;refine G.buildU 53 2 32 (.agg #[.slice none 0 0,.int .i64 0]) [.agg #[.slice (some ⟨N,0,none⟩) 2 2,.int .i64 1]] kV (fun x F=>by
  simp only[A1g,A11,or_false]at F;subst F;exact⟨rfl,A1o.1 rfl⟩) rfl oV mV mV ?_
 intro g6 u6 l6 e6;have hW:WOK u6 Vi (Qr N):=fun y hy=>by
  have:y=([[49],[50]],1,(some ⟨N,0,none⟩,2)):=by simpa[Qr] using hy
  subst this;exact⟨e5.listP.mono l6,Ajf,A08 1,by show 1<=7;omega⟩
 have a3:=l5.trans l6;refine G.c call11 (Ld (hX.mono a3) (g.mono a3) fV (show Ac u6 (.slice (some ⟨g6,0,none⟩) (Qr N).length 1) 2 ((Qr N).map F3) from e6.listP) hW (by simp[Qr])) ?_;rintro v7 u7 l7 ⟨x7,rfl,k7⟩;have a4:=a3.trans l7;obtain⟨k,V⟩:=Ajm (P:=Ad2) (hX.mono a4) (g.mono a4) fV hW.tup (by simp[Qr]) k7 (by simp[Qr]) (Ai2 _) fV oV;have a5:=hW.tup;obtain⟨a1,n1,c1,a2,n2,c2,rfl⟩:=k7.opn;refine G.B 9 1 16 (.string (mkS [])) [.string (mkS [49]),.string (mkS [50])] (G6 [[49],[50]]) ?_;intro O u8 l8 e8;refine G.B 9 1 16 (.string (mkS [])) [.string (mkS [48]),.string (mkS [52])] (G6 [[48],[52]]) ?_;intro Q u9 l9 e9;refine G.buildU 53 2 32 (.agg #[.slice none 0 0,.int .i64 0]) [.agg #[.slice (some ⟨O,0,none⟩) 2 2,.int .i64 1],.agg #[.slice (some ⟨Q,0,none⟩) 2 2,.int .i64 1]] kV (fun x F=>by
  simp only[A1g,A11,or_false]at F;rcases F with rfl|rfl<;>exact⟨rfl,A1o.1 rfl⟩) rfl oV mV mV ?_
 intro al ai Z aj;have W:WOK ai Vi (Ml O Q):=fun y hy=>by
  simp only[Ml,A1g,A11,or_false]at hy;rcases hy with rfl|rfl
  ·exact⟨e8.listP.mono (l9.trans Z),Ajf,A08 1,by show 1<=7;omega⟩
  exact⟨e9.listP.mono Z,Abn,A08 1,by show 1<=7;omega⟩
 have U:=(l8.trans l9).trans Z;have L:=a4.trans U;refine G.c call11 (Ld (hX.mono L) (g.mono L) fV (show Ac ai (.slice (some ⟨al,0,none⟩) (Ml O Q).length 2) 2 ((Ml O Q).map F3) from aj.listP) W (by simp[Ml])) ?_;rintro bh b7 ad ⟨bp,rfl,Y⟩;have j:=L.trans ad;obtain⟨k',I⟩:=Ajm (P:=Ad2) (hX.mono j) (g.mono j) fV W.tup (by simp[Ml]) Y (by simp[Ml]) (Ai2 _) fV oV;have a6:=W.tup;obtain⟨b1,m1,d1,b2,m2,d2,rfl⟩:=Y.opn;have hC:=Vx (P:=Ad2) g a5 (by simp[Qr]) (Azq g N);have H:=Vx (P:=Ad2) g a6 (by simp[Ml]) (Azp g O Q);have hp:Td Jc Ad2 1:=Al6 (Ai2 (CF.num 0)) Ws fV;have a7:=L0 g g.l1 (Iz g) a5;have R:=L0 g g.l1 (Iz g) a6;have z:Cf Jc ((1:Nat):Int) (Ml O Q)=(Cf Jc ((1:Nat):Int) (Qr N)).add ((cfT Jc ((1:Nat):Int) [[48],[52]]).scale ((1:Int):Rat)):=Apl O Q N;have az:(Qr N).length=1:=rfl;have b0:(Ml O Q).length=2:=rfl;generalize Cf Jc ((1:Nat):Int) (Qr N)=C at V hC z a7 k7;generalize Cf Jc ((1:Nat):Int) (Ml O Q)=C' at I H z R Y;have ah:=U.trans ad;have E:=am.mono j;have a8:=Aaz E (V.mono ah) Ws a7 oV hC.psd;rw[Sv]at a8;refine G.c call13 a8 ?_;rintro bi b8 ae an;rcases an with ⟨e,h,_⟩|⟨_,_,sv,X,b,s,c,rfl,kS,kN⟩
 ·exfalso;rcases h with ⟨h,_⟩|⟨_,_,h⟩
  ·have:=V.mom.c;rw[h]at this;have h2:=hC.pos;rw[this]at h2;exact absurd h2 jV
  exact absurd h fV
 obtain⟨pa,pc,xa,xc,ra,rc,rfl,_⟩:=id kS;refine G.B 9 1 16 (.string (mkS [])) [.string (mkS [48]),.string (mkS [52])] (G6 [[48],[52]]) ?_;intro ay b9 a0 ak;have m:=ae.trans a0;have T:=j.trans m;have aa:=Sg (w:=1) (E.mono m) (ss:=[[48],[52]]) ⟨hX.mono T,g.mono T,ak.listP,Abn⟩ (.inr Ays) (kS.mono a0) kN hp fV hC (by rw[<-z];exact H) fV oV oV oV;rw[<-z]at aa;refine G.c call15 aa ?_;rintro bj ba af ⟨b5,X2,aw,s2,ax,rfl,ab,ap⟩;obtain⟨qa,qc,ya,yc,sa,sc,rfl,_⟩:=id ab;have J:=m.trans af;have a9:=Aaz (E.mono J) (I.mono J) Ws R oV H.psd;rw[Sv]at a9;refine G.c call13 a9 ?_;rintro bk bb ag ao;rcases ao with ⟨e,h,_⟩|⟨_,_,b6,X3,b3,s3,c3,rfl,ac,aq⟩
 ·exfalso;rcases h with ⟨h,_⟩|⟨_,_,h⟩
  ·have:=I.mom.c;rw[h]at this;have h2:=H.pos;rw[this]at h2;exact absurd h2 jV
  exact absurd h fV
 obtain⟨za,zc,wa,wc,va,vc,rfl,_⟩:=id ac;refine G.eT' 0 0 rfl<|G.eT' 0 0 rfl<|G.eT' 0 0 rfl<|G.c call20 (T9 (ab.mono ag) ac ap aq hp H) ?_;rintro bl bd ar rfl;refine G.c call39 (Vb (p:=3) (t:=2) oV oV) ?_;rintro bm be au rfl;refine G.c call39 (Vb (p:=3) (t:=3) oV oV) ?_;rintro bn bf av rfl;have K:=((((a0.trans af).trans ag).trans ar).trans au).trans av;have n:=ae.trans K;refine G.c call43 (Anl (E.mono n) (hX.mono (j.trans n)) (g.mono (j.trans n)) (kS.mono K) kN hp hC fV) ?_;rintro bo bg b4 rfl;exact G.r (.bool true) ⟨rfl,rfl⟩
structure Atg (u:PH)(T:List (List UInt8×Nat))(R:List Br)(F:List Al)(lab:Int)(L:List Dm)(xv lv:Value):Prop where
 sch:H5 u xv T R F lab
 ok:Bl u T R F lab
 t8:T.length<=8
 lab0:0<=lab
 f0:F≠[]
 f4:F.length<=4
 rows:Ac u lv 2 (L.map F3)
 wok:WOK u T L
 w9:W9 T L
 l6:L.length<=6
def Aul {u:PH}{s:Src}{ts:List Int}{k:Nat}(h:J0 u s ts)(V:k<=s.n) :
 Ag prog 10 [s.ptr] u (s.M k) fun r u' Z=>∃ (T:List (List UInt8×Nat)) (R:List Br) (F:List Al) (lab:Int) (L:List Dm) (K J:Value) (I:Nat),r=.tuple #[K,J]/\Atg u' T R F lab L K J/\I<=s.n/\Z=s.M I:=by
 letI:Pu:=⟨true⟩
 refine Ag.o func10<|G.callP _ _ kV rfl call44 (By _).symm (Ef _) (Ace 4 oV oV h V) ?_;rintro v1 u1 m1 X ⟨T,R,F,lab,k1,C,ok,z,e,g,E,rfl,j⟩ _;rw[By];obtain⟨xa,xc,xb,xd,xe,xf,rfl,Q,P,O⟩:=id C;refine G.callP _ _ kV rfl call35 (By _).symm (Ef _) (Ajh (most:=6) (h.mono X) E C ok oV) ?_;rintro v2 u2 m2 l2 ⟨L,W,m,t,U,N,H,rfl⟩ _;rw[By];obtain⟨la,Y,rfl⟩:=m.opn;rw[A03]at m⊢;exact G.r (.tuple #[.agg #[.slice xa T.length xc,.slice xb R.length xd,.slice xe F.length xf,.int .i64 lab],.slice la L.length Y])
  ⟨T,R,F,lab,L,_,_,W,rfl,⟨C.mono l2,ok.mono l2,z,e,g,j,m,U,N,t⟩,H,rfl⟩
section
def A0s {u:PH}{h:Value}{T:List (List UInt8×Nat)}{F:List Al}{lab:Int}{C:CF}{K:Nat}(j:No u h C K)(hF:Da T F lab):∃ P,Nn F C P:=by
 obtain⟨A,Q,a1,c1,a2,c2,rfl,z,E,g,t,H,I⟩:=j;exact⟨He F A F.length,Tu g.srt _,fun p=>Aed g fun f m=>by
  obtain⟨n,k,_,e,_⟩:=hF.ok f m;rcases e with ⟨e,_⟩|⟨e,_⟩
  ·exact .inl e
  exact .inr e⟩
section
variable {u:PH} {T:List (List UInt8×Nat)} {R:List Br} {F:List Al} {lab:Int} {L L':List Dm} {P:List Par}
def Axm (ok:Bl u T R F lab)(hT:∀ y∈L,Bw T y.1)(h:∀ y∈L,G4 F lab y.1=false):(Cf F lab L).c=0:=by
 induction L using Ig with
 |h0=>rfl
 |h1 L y ih =>
  rw[Eb,Als (Awu ok (hT y mV) (h y mV))];exact ih (fun z e=>hT z (A24 _ e)) (fun z e=>h z (A24 _ e))
def Ala {l:Nat}(ok:Bl u T R F (l:Int))(hT:∀ y∈L,Bw T y.1/\1<=y.2.1)(e:Nn F (Cf F (l:Int) L) P){y:Dm}(j:y∈L):Aqi F l P y.1:=by
 cases h:G4 F (l:Int) y.1 with
 |false=>exact .inl h
 |true=>exact .inr ⟨h,fun x g=>Aln ok hT j h e.2 g⟩
def Axy (ok:Bl u T R F lab)(hT:∀ y∈L,Bw T y.1/\1<=y.2.1)(hF:F≠[])(E:(Cf F lab L).c≠0)(z:Nn F (Cf F lab L) P):P≠[]:=by
 obtain⟨f,g,rfl⟩:∃ f g,F=f::g:=by
  cases F with
  |nil=>exact absurd rfl hF
  |cons f g=>exact⟨f,g,rfl⟩
 have C:(f::g)[0]?=some f:=rfl;obtain⟨n,k,_,h,_⟩:=ok.feat.ok f mV;have j:f.2.1=1\/f.2.1=2:=by
  rcases h with ⟨h,_⟩|⟨h,_⟩
  ·exact .inl h
  exact .inr h
 rcases j with j|j
 ·exact List.ne_nil_of_mem ((z.2 _).2 (.inl ⟨0,f,rfl,C,j⟩))
 obtain⟨y,m,t⟩:∃ y∈L,G4 (f::g) lab y.1=true:=A3m fun H=>E (Axm ok (fun y m=>(hT y m).1) fun y m=>by
  cases e:G4 (f::g) lab y.1 with
  |false=>rfl
  |true=>exact absurd ⟨y,m,e⟩ H)
 have I:Jf y.1 0 f=some ((((0:Nat):Int),y.1.getD f.1 []),1):=by unfold Jf;rw[if_pos j]
 exact List.ne_nil_of_mem (Aln ok hT m t z.2 (F9.2 ⟨0,f,mV,C,I⟩))
theorem Apu (ok:Bl u T R F lab)(hT:∀ y∈L++L',Bw T y.1/\y.2.1<=7)(e:(L++L').length<=13)(j:0<(Cf F lab L).c):Ug P (Cf F lab (L++L')):=by
 refine Vx ok hT e ?_;rw[Api];obtain⟨k,g,_⟩:=Arb ok.feat ok.l1 (Iz ok) (L:=L') fun y h=>hT y (A6v _ h);show 0<(Cf F lab L).c+(Cf F lab L').c;rw[g];have:(0:Rat)<=(k:Rat):=by exact_mod_cast A1t k
 grind
end
end
end Go.Proofs.YtemmheaocgmebaaGreatDoor
