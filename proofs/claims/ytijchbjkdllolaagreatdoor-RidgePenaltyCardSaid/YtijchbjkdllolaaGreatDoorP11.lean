/- Parts of one proof, joined by a program. -/
import Derived.Test.YtijchbjkdllolaaGreatDoorP10
set_option linter.defProp false
set_option linter.unusedVariables false
set_option linter.unusedSimpArgs false
set_option linter.unusedSectionVars false
set_option maxHeartbeats 16000000
namespace Go.Proofs.YtijchbjkdllolaaGreatDoor
open Go.Proofs.Tryz
open Go.RowKit Go.MapKept
def A5j:=@Rat.natCast_add
def A7y:=@List.length_eq_zero_iff
def A7i:=@Array.size_modify
def A7e:=@List.filter_append
def A5x:=@List.filter_cons_of_pos
def A5y:=@List.filter_cons_of_neg
def A47:=@List.length_filter_le
section
variable {u:PH}
def So {p:Par}(h:PV p):Fn0 prog 101 [Aq p] u fun v _=>v=.bool true:=by
 refine Fn0.o func101<|G.hT' p.1 (-1) (by have:=h.lo;omega) ?_;by_cases e:p.2 = []
 ·exact G.q p.2 [] e<|G.r (.bool true) ⟨rfl,rfl⟩
 refine G.w p.2 [] e<|G.c call100 (Rz (h.cat.resolve_left e)) ?_;rintro m j g rfl;exact G.r (.bool true) ⟨rfl,rfl⟩
def ElP.par {b off:Nat}{x:Par×Rat}(h:ElP u b off (As x)):ElP u b (off+0) (.agg #[.int .i64 x.1.1,.string (mkS x.1.2)]):=h.sub fun i y e=>by
 match i,e with
 |0,e=>simpa[As,Value.cells] using e
 |1,e=>simpa[As,Value.cells] using e
 |i+2,e=>simp[Value.cells]at e
def Af8 {v:Value}{F:CF}{K:Nat}(h:Nu u v F K)(sF:CFS F)(vF:CFV F)(hK:K<=1000000):Fn0 prog 46 [v] u fun r _=>r=.bool true:=by
 obtain⟨T,Q,a1,W,a2,X,rfl,hT,hQ,cT,cQ,kT,kQ⟩:=h;refine Fn0.o func46<|G.c call18 (D1 (SB.tx sF.c)) ?_;rintro v1 u1 l1 rfl;refine G.l (ι:=Nat) (fun i=>[(1,.p 0 0),(12,sV a1 T.length W),(13,iV T.length),(14,iV i)])
  (fun _=>[(0,⟨36,[tV (Ae F.c),sV a1 T.length W,sV a2 Q.length X]⟩)])
  (fun i u' m'=>i<=T.length/\m'=PH.mt) (fun i=>T.length-i) 0 ⟨oV,rfl⟩ ?_
 rintro J i V u2 m2 l2 ⟨hi,rfl⟩;have U:=l1.trans l2;by_cases m:i<T.length
 ·refine G.lT i T.length ?_;obtain⟨x,N⟩:∃ x,T[i]?=some x:=⟨_,Ayr m⟩;have n:=Ay9 N;obtain⟨g,C⟩:=cT.val _ n;obtain⟨H,I,rfl,ea⟩:=Ac.at' (hT.mono U) (j:=i) (e:=As x) (by simp[N]);have O:SB x.2:=by rw[g];exact sF.s _
  have a6:PV x.1:=vF.s x.1 (by rw[<-g];exact C);refine G.a H I T.length W i 3 m<|G.lU (some 3) H (I+i*3) (.agg #[.int .i64 x.1.1,.string (mkS x.1.2),.string (mkS (Ae x.2))]) ea<|G.c call101 (So a6) ?_;rintro v3 u3 P rfl;refine G.c call18 (D1 (SB.tx O)) ?_;rintro v4 u4 R rfl;refine G.w (Ae x.2) [48] (Nn C) ?_;by_cases h0:i=0
  ·subst h0;exact G.gF (0:Nat) 0<|G.p (0:Nat) 1 (0+1:Nat)<|G.b (V (0+1) _ _ _ cV ((l2.trans P).trans R) ⟨oV,rfl⟩ oV)
  refine G.gT i 0<|G.s i 1 (i-1:Nat) ?_;obtain⟨y,Z⟩:∃ y,T[i-1]?=some y:=⟨_,Ayr oV⟩;have E:Bf y.1 x.1<0:=by
   have hp:=cT.srt;obtain⟨h1,rfl⟩:=Ayu.1 N;obtain⟨h2,rfl⟩:=Ayu.1 Z;have:=A02.1 hp (i-1) i (by rw[Ayt];omega) (by rw[Ayt];omega) oV;rw[A1f,A1f]at this;exact this
  obtain⟨bb,ob,e1,eb⟩:=Ac.at' (hT.mono ((U.trans P).trans R)) (j:=i-1) (e:=As y) (by simp[Z]);cases e1;refine G.a H I T.length W (i-1) 3 oV<|G.f 65 H (I+(i-1)*3) 0 0<|G.lU (some 2) H (I+(i-1)*3+0) (.agg #[.int .i64 y.1.1,.string (mkS y.1.2)]) eb.par<|G.c call79 (Ff y.1 x.1 true (decide_eq_true E)) ?_;rintro v5 u5 l5 rfl;exact G.i i<|G.b (V (i+1) _ _ _ cV (((l2.trans P).trans R).trans l5) ⟨oV,rfl⟩ oV)
 obtain rfl:i=T.length:=oV;refine G.lF T.length T.length ?_;clear V;refine G.l (ι:=Nat) (fun i=>[(1,.p 0 0),(53,sV a2 Q.length X),(54,iV Q.length),(55,iV i)])
  (fun _=>[(0,⟨36,[tV (Ae F.c),sV a1 T.length W,sV a2 Q.length X]⟩)])
  (fun i u' m'=>i<=Q.length/\m'=PH.mt) (fun i=>Q.length-i) 0 ⟨oV,rfl⟩ ?_
 rintro J i V u3 m3 P ⟨hi,rfl⟩;have a3:=U.trans P;by_cases m:i<Q.length
 ·refine G.lT i Q.length ?_;obtain⟨x,L⟩:∃ x,Q[i]?=some x:=⟨_,Ayr m⟩;have n:=Ay9 L;obtain⟨g,C⟩:=cQ.val _ n;obtain⟨H,I,rfl,ea⟩:=Ac.at' (hQ.mono a3) (j:=i) (e:=D7 x) (by simp[L]);have O:SB x.2:=by rw[g];exact sF.t _
  obtain⟨a4,a5,a0⟩:=vF.t x.1 (by rw[<-g];exact C);refine G.a H I Q.length X i 5 m<|G.lU (some 5) H (I+i*5) (.agg #[.int .i64 x.1.1.1,.string (mkS x.1.1.2),.int .i64 x.1.2.1,.string (mkS x.1.2.2),.string (mkS (Ae x.2))]) ea<|G.c call101 (So a4) ?_;rintro v3 u4 R rfl;refine G.c call101 (So a5) ?_;rintro v4 u5 l5 rfl;refine G.c call79 (Ff x.1.2 x.1.1 false (decide_eq_false fun e=>a0 ((Dl.sym _ _).1 e))) ?_;rintro v5 u6 l6 rfl;refine G.c call18 (D1 (SB.tx O)) ?_;rintro v6 u7 l7 rfl;refine G.w (Ae x.2) [48] (Nn C) ?_;by_cases h0:i=0
  ·subst h0;exact G.gF (0:Nat) 0<|G.p (0:Nat) 1 (0+1:Nat)<|G.b (V (0+1) _ _ _ cV ((((P.trans R).trans l5).trans l6).trans l7) ⟨oV,rfl⟩ oV)
  refine G.gT i 0<|G.s i 1 (i-1:Nat) ?_;obtain⟨y,Y⟩:∃ y,Q[i-1]?=some y:=⟨_,Ayr oV⟩;have E:Ni y.1 x.1<0:=by
   have hp:=cQ.srt;obtain⟨h1,rfl⟩:=Ayu.1 L;obtain⟨h2,rfl⟩:=Ayu.1 Y;have:=A02.1 hp (i-1) i (by rw[Ayt];omega) (by rw[Ayt];omega) oV;rw[A1f,A1f]at this;exact this
  obtain⟨bb,ob,e1,eb⟩:=Ac.at' (hQ.mono ((((a3.trans R).trans l5).trans l6).trans l7)) (j:=i-1) (e:=D7 y) (by simp[Y]);cases e1;refine G.a H I Q.length X (i-1) 5 oV<|G.lU (some 5) H (I+(i-1)*5) (D7 y) eb<|G.c call102 (Po y x true (decide_eq_true E)) ?_;rintro v5 u8 l8 rfl;exact G.i i<|G.b (V (i+1) _ _ _ cV (((((P.trans R).trans l5).trans l6).trans l7).trans l8) ⟨oV,rfl⟩ oV)
 obtain rfl:i=Q.length:=oV;exact G.lF Q.length Q.length<|G.r (.bool true) ⟨rfl,rfl⟩
end
def Src.h0or (s:Src)(k j:Nat)(m:PH)(g:Nat):s.M k g=none\/(m.or (s.M j)) g≠none:=by
 rcases s.h0 k j g with e|e
 ·exact .inl e
 right;intro h;cases hx:m g with
 |some o=>rw[PH.or_l hx]at h;cases h
 |none=>rw[PH.or_r hx]at h;exact e h
def Aq7 {m:PH}{a b c d:Arr}(h:Bag m [a,b,c,d]):Bag m [a,c,d]:=by
 have e:Bag m [a,c,d,b]:=Bag.perm (List.Perm.cons a ((List.Perm.swap c b [d]).trans (List.Perm.cons c (List.Perm.swap d b [])))) h;obtain⟨g,t,j,u,n,C,_⟩:=e;exact⟨g,t,j,u,n,C,trivial⟩
def Avn {x:Int}(h:x∈[1,2,2,(3:Int)]):∃ n:Nat,x=(n:Int)/\1<=n/\n<=3:=by
 simp at h;rcases h with rfl|rfl|rfl
 ·exact⟨1,rfl,oV,oV⟩
 ·exact⟨2,rfl,oV,oV⟩
 exact⟨3,rfl,oV,oV⟩
def Ado {u:PH}{s:Src}{ts:List Int}{k:Nat}(most:Nat)(f4:1<=most)(e0:most<=6)(h:Ig u s ts)(hk:k<=s.n) :
 Ag prog 95 [s.ptr,.int .i64 most] u (s.M k) fun v u' m'=>∃ (T:List (List UInt8×Nat)) (R:List Bu) (F:List Am) (lab:Int) (k':Nat),G8 u' v T R F lab/\Bt u' T R F lab/\T.length<=6/\k'<=s.n/\m'=s.M k'/\TOK T/\T.length<=most/\F.length<=most:=by
 refine Ag.o func95<|G.A call103 (Aaa (lo:=1) (hi:=3) (n:=3) h hk oV oV oV oV oV) ?_;rintro v1 u1 m1 l1 ⟨r,k1,rfl,hr,dy,rfl⟩ _;rw[Bw];obtain⟨n,hn⟩:∃ n:Nat,(1:Int)+(r:Int)=(n:Int):=⟨1+r,oV⟩;rw[hn];refine G.l (ι:=Nat×Nat×List (List UInt8×Nat)×(Option Addr×Nat)×List Bu×(Option Addr×Nat)) (fun i=>[(0,.v s.ptr),(1,iV most),(4,.p 0 0),(5,.p 1001 0),(6,iV n),(7,iV i.1)])
  (fun i=>[(0,⟨30,[sV none 0 0,sV none 0 0,sV none 0 0,iV 0]⟩),(1001,⟨30,[sV i.2.2.2.1.1 i.2.2.1.length i.2.2.2.1.2,sV i.2.2.2.2.2.1 i.2.2.2.2.1.length i.2.2.2.2.2.2,sV none 0 0,iV (-1)]⟩)])
  (fun i u' m'=>i.1<=n/\i.2.1<=s.n/\TOM most i.2.2.1/\ROK u' i.2.2.1.length i.2.2.2.2.1/\i.2.2.2.2.1.length=i.1/\(0<i.1->0<i.2.2.1.length)/\Bag m' [s.arr i.2.1,Abm i.2.2.2.1.1 i.2.2.2.1.2 i.2.2.1,X8 i.2.2.2.2.2.1 i.2.2.2.2.2.2 i.2.2.2.2.1])
  (fun i=>n-i.1) (0,k1,[],(none,0),[],(none,0))
  ⟨Azh _,dy,TOM.nil most,ROK.nil,rfl,fun h=>absurd h mV,s.bag0 k1 ⟨PH.mt,Af.nil _ _ _,PH.mt,Af.nil _ _ _,trivial⟩⟩ ?_
 rintro J ⟨i,k2,T,⟨ta,tc⟩,R,⟨ra,rc⟩⟩ hJ u2 m2 l2 ⟨hi,ci,hT,hR,cx,h0,b5⟩;simp only at hi ci hT hR cx h0 b5 hJ;subst cx;have bz:=l1.trans l2;have dw:=hT.le;by_cases f3:R.length<n
 ·refine G.lT R.length n<|G.l (ι:=Nat×Nat×List Nat×(Option Addr×Nat)) (fun i=>[(0,.v s.ptr),(1,iV most),(4,.p 0 0),(5,.p 1001 0),(6,iV n),(7,iV R.length),(8,sV i.2.2.2.1 i.2.2.1.length i.2.2.2.2),(23,iV T.length),(24,iV i.1)])
   (fun i=>[(0,⟨30,[sV none 0 0,sV none 0 0,sV none 0 0,iV 0]⟩),(1001,⟨30,[sV ta T.length tc,sV ra R.length rc,sV none 0 0,iV (-1)]⟩)])
   (fun i u' m'=>i.1<=T.length/\i.2.1<=s.n/\LOK i.2.2.1 i.1/\Bag m' [s.arr i.2.1,Aea i.2.2.2.1 i.2.2.2.2 i.2.2.1,Abm ta tc T,X8 ra rc R])
   (fun i=>T.length-i.1) (0,k2,[],(none,0))
   ⟨Azh _,ci,LOK.nil,by obtain⟨m0,e7,hL⟩:=b5;exact⟨m0,e7,m0,Af.nil _ _ _,hL⟩⟩ ?_
  rintro J1 ⟨j,k3,l,⟨la,lc⟩⟩ Q u3 m3 l3 ⟨hj,a1,hl,ah⟩;simp only at hj a1 hl ah Q;have f2:=hl.len;by_cases ez:j<T.length
  ·refine G.lT j T.length ?_;obtain⟨n4,aj,cg⟩:=ah;obtain⟨rfl,b6⟩:=Src.split aj;refine G.D call48 (Src.apart b6) (Jd (n:=3) (h.mono (bz.trans l3)) a1 oV oV) ?_;rintro v4 u4 m4 l4 ⟨r4,k4,rfl,e4,bq,rfl⟩ _;have m:Bag _ [s.arr k4,Aea la lc l,Abm ta tc T,X8 ra rc R]:=⟨_,Src.at b6,cg⟩;by_cases d6:r4=0
   ·refine G.eT r4 0<|G.B 3 1 8 (.int .i64 0) [.int .i64 j] (A8 [j]) ?_;intro g6 u6 l6 e6;obtain⟨cp,be,ai⟩:=m.focus 1 rfl;rw[Aan]at be;refine G.append 3 1 8 (.int .i64 0) cp (Ai l) [.int .i64 j] (.slice la l.length lc) g6 0 1 1 kV rfl rfl oV be e6 (A8 [j]) rfl oV (by simp[Ai];omega) (by simp[Ai];omega) ?_;intro w6 cq a9;rw[C2]at a9;obtain⟨a6,c6,rfl⟩:=a9.shape;rw[Ak]at a9⊢;have V:=ai (Aea a6 c6 (l++[j])) cq a9;simp only[A0i,A0p]at V;exact G.i j<|G.b (Q (j+1,k4,l++[j],(a6,c6)) _ _ _ cV ((l3.trans l4).trans l6) ⟨dV,bq,hl.snoc,V⟩ dV)
   exact G.eF r4 0<|G.i j<|G.b (Q (j+1,k4,l,(la,lc)) _ _ _ cV (l3.trans l4) ⟨dV,bq,hl.up,m⟩ dV)
  obtain rfl:j=T.length:=oV;refine G.lF T.length T.length ?_;obtain⟨n4,aj,cg⟩:=ah;obtain⟨rfl,b6⟩:=Src.split aj;refine G.D call48 (Src.apart b6) (Jd (n:=3) (h.mono (bz.trans l3)) a1 oV oV) ?_;rintro v4 u4 m4 l4 ⟨r4,k4,rfl,e4,bq,rfl⟩ _;have m:Bag _ [s.arr k4,Aea la lc l,Abm ta tc T,X8 ra rc R]:=⟨_,Src.at b6,cg⟩;refine G.l (ι:=Int×Nat×List Nat×(Option Addr×Nat)×List (List UInt8×Nat)×(Option Addr×Nat)) (fun i=>[(0,.v s.ptr),(1,iV most),(4,.p 0 0),(5,.p 1001 0),(6,iV n),(7,iV R.length),(8,sV i.2.2.2.1.1 i.2.2.1.length i.2.2.2.1.2),(10,iV i.1)])
   (fun i=>[(0,⟨30,[sV none 0 0,sV none 0 0,sV none 0 0,iV 0]⟩),(1001,⟨30,[sV i.2.2.2.2.2.1 i.2.2.2.2.1.length i.2.2.2.2.2.2,sV ra R.length rc,sV none 0 0,iV (-1)]⟩)])
   (fun i u' m'=>i.2.1<=s.n/\(i.2.2.1 = []->0<=i.1)/\-1<=i.1/\i.1<=2/\T.length<=i.2.2.2.2.1.length/\TOM most i.2.2.2.2.1/\LOK i.2.2.1 i.2.2.2.2.1.length/\(∀ a,T.length<=a->a<i.2.2.2.2.1.length->a∈i.2.2.1)/\Bag m' [s.arr i.2.1,Aea i.2.2.2.1.1 i.2.2.2.1.2 i.2.2.1,Abm i.2.2.2.2.2.1 i.2.2.2.2.2.2 i.2.2.2.2.1,X8 ra rc R])
   (fun i=>(i.1+1).toNat) ((r4:Int),k4,l,(la,lc),T,(ta,tc))
   ⟨bq,fun _=>dV,dV,dV,Ay2 _,hT,hl,fun a h1 h2=>by dsimp only at h2;omega,m⟩ ?_
  rintro J2 ⟨z,k5,E,⟨Y,Z⟩,C,⟨bn,bo⟩⟩ cv u5 m5 co ⟨a2,dc,e8,e9,ag,b4,b9,a3,t⟩;simp only at a2 dc e8 e9 ag b4 b9 a3 t cv;have ew:=b4.le;have ex:=b9.len;have dd:=((bz.trans l3).trans l4).trans co;have c0:=(l3.trans l4).trans co;refine dite (0<z) (fun hz=>?zp) (fun hz=>?zn)
  case' zp =>
   refine G.gT z 0 ?_;refine dite (C.length<most) (fun bb=>?g1) (fun bb=>?l1)
  case' g1=>refine G.lT C.length most ?_
  case' l1 =>
   refine G.lF C.length most ?_;refine dite (E = []) (fun I=>?e1) (fun I=>?n1)
  case' n1=>have d5:0<C.length:=oV
  case' zn =>
   refine G.gF z 0 ?_;refine dite (E = []) (fun I=>?y2) (fun I=>?n2)
  case' y2 =>
   have f5:=dc I;have d3:E.length=0:=by rw[I];rfl
   refine G.eT E.length 0 ?_;refine dite (C.length<most) (fun bb=>?g2) (fun bb=>?e2)
  case' g2=>refine G.lT C.length most ?_
  case' e2=>refine G.lF C.length most ?_
  case' n2 =>
   have d3:0<E.length:=A29.2 I;refine G.eF E.length 0 ?_;have d5:0<C.length:=by
    obtain⟨x,hx⟩:=List.exists_mem_of_ne_nil _ I;have:=b9.lt x hx;omega
  case g1|g2 =>
   refine G.B 3 1 8 (.int .i64 0) [.int .i64 C.length] (A8 [C.length]) ?_;intro dq f8 cn dl;obtain⟨df,c3,bt⟩:=t.focus 1 rfl;rw[Aan]at c3;refine G.append 3 1 8 (.int .i64 0) df (Ai E) [.int .i64 C.length] (.slice Y E.length Z) dq 0 1 1 kV rfl rfl oV c3 dl (A8 [C.length]) rfl oV (by simp[Ai];omega) (by simp[Ai];omega) ?_;intro fe dh aq;rw[C2]at aq;obtain⟨c8,c9,rfl⟩:=aq.shape;rw[Ak]at aq⊢;have ao:=bt (Aea c8 c9 (E++[C.length])) dh aq;simp only[A0i,A0p]at ao;refine G.both [0,1,2,3,4,6] 5 7 [8,9,10,11,12,13] kV ?_ ?_;refine G.c call167 (Ql (p:=[97]) (i:=C.length) oV mV) ?_;rintro er ej aw rfl;refine G.B 3 1 8 (.int .i64 0) [.int .i64 1,.int .i64 2,.int .i64 2,.int .i64 3] (Ll [1,2,2,3]) ?_;intro dr ek bh cb;have c5:=(((dd).trans cn).trans aw).trans bh;have c7:=aw.trans bh;have c1:=cb.listP
   rotate_left
   refine G.B 3 1 8 (.int .i64 0) [.int .i64 1,.int .i64 2,.int .i64 2,.int .i64 3] (Ll [1,2,2,3]) ?_;intro dr ek bh cb;refine G.c call167 (Ql (p:=[97]) (i:=C.length) oV mV) ?_;rintro er ej aw rfl;have c5:=(((dd).trans cn).trans bh).trans aw;have c7:=bh.trans aw;have c1:=cb.listP.mono aw;all_goals
    obtain⟨dj,bx,cw⟩:=ao;obtain⟨rfl,c2⟩:=Src.split bx;refine G.D call99 (Src.apart c2) (W1 (L:=[1,2,2,3]) (h.mono c5) a2 c1 mV mV) ?_;rintro fd f9 f6 eb ⟨kd,br,ck,rfl,cz,rfl⟩ _;obtain⟨kn,rfl,d1,d2⟩:=Avn br;have bp:Bag (dj.or (s.M ck)) [s.arr ck,Aea c8 c9 (E++[C.length]),Abm bn bo C,X8 ra rc R]:=⟨dj,Src.at c2,cw⟩;refine G.B 162 2 24 (.agg #[.string (mkS []),.int .i64 0]) [.agg #[.string (mkS (nmA C.length)),.int .i64 kn]] (Aj9 (nmA C.length,kn)) ?_;intro ds fb ec dm;obtain⟨dg,c4,bu⟩:=bp.focus 2 rfl;rw[Aq3]at c4;refine G.append 162 2 24 (.agg #[.string (mkS []),.int .i64 0]) dg (C.map Dz) [.agg #[.string (mkS (nmA C.length)),.int .i64 kn]] (.slice bn C.length bo) ds 0 1 1 kV rfl rfl oV c4 dm (Aj9 (nmA C.length,kn)) rfl oV (by simp[Ai];omega) (by simp[Ai];omega) ?_;intro ff di ar;rw[show C.map Dz++[.agg #[.string (mkS (nmA C.length)),.int .i64 kn]]=(C++[(nmA C.length,kn)]).map Dz by rw[Aza];rfl]at ar;obtain⟨cs,ct,rfl⟩:=ar.shape;rw[Ayt]at ar⊢;have ap:=bu (Abm cs ct (C++[(nmA C.length,kn)])) di ar;simp only[A0i,A0p]at ap;refine G.s z 1 (z-1) ?_;exact G.b (cv (z-1,ck,E++[C.length],(c8,c9),C++[(nmA C.length,kn)],(cs,ct)) _ _ _ cV ((((co.trans cn).trans c7).trans eb).trans ec) ⟨cz,fun e=>by simp at e,dV,dV,by dsimp only;rw[Ay3];omega,b4.snocm d1 d2 oV e0,by dsimp only;rw[Ay3];exact b9.snoc,fun a h1 h2=>by
     dsimp only at h2⊢;rw[Ay3,A0u]at h2;rcases Az8 a C.length with e|e
     ·exact A0x _ (a3 a h1 e)
     exact A46 _ (Azs.2 oV),ap⟩ dV)
  case e1|e2 =>
   subst I;refine G.eT' (([]:List Nat).length:Int) 0 mV<|G.B 3 1 8 (.int .i64 0) [.int .i64 (0:Nat)] (A8 [0]) ?_;intro a0 dk bi dp;have b8:Ac dk (.slice (some ⟨a0,0,none⟩) 1 1) 1 (Ai [0]):=dp.listP;have U:=Aq7 t;refine G.c call167 (Ql (p:=[114]) (i:=R.length) oV mV) ?_;rintro es em al rfl;refine G.B 164 2 40 (.agg #[.string (mkS []),.slice none 0 0]) [.agg #[.string (mkS (nmR R.length)),.slice (some ⟨a0,0,none⟩) 1 1]] (Rk (nmR R.length,[0],((some (⟨a0,0,none⟩:Addr)),1))) ?_;intro ce cr am cc;obtain⟨bk,af,a8⟩:=U.focus 2 rfl;rw[Ajr]at af;refine G.append 164 2 40 (.agg #[.string (mkS []),.slice none 0 0]) bk (R.map Hq) [.agg #[.string (mkS (nmR R.length)),.slice (some ⟨a0,0,none⟩) 1 1]] (.slice ra R.length rc) ce 0 1 1 kV rfl rfl oV af cc (Rk (nmR R.length,[0],((some (⟨a0,0,none⟩:Addr)),1))) rfl oV (by simp[Ai];omega) (by simp[Ai];omega) ?_;intro eu bm P;rw[show R.map Hq++[.agg #[.string (mkS (nmR R.length)),.slice (some ⟨a0,0,none⟩) 1 1]]=(R++[(nmR R.length,[0],((some (⟨a0,0,none⟩:Addr)),1))]).map Hq by rw[Aza];rfl]at P;obtain⟨az,b1,rfl⟩:=P.shape;rw[Ayt]at P⊢;have N:=a8 (X8 az b1 (R++[(nmR R.length,[0],((some (⟨a0,0,none⟩:Addr)),1))])) bm P;simp only[A0i,A0p]at N;refine G.p R.length 1 (R.length+1:Nat) ?_;have b3:ROK cr C.length (R++[(nmR R.length,[0],((some (⟨a0,0,none⟩:Addr)),1))]):=by
    refine (hR.mono (c0 |>.trans bi |>.trans al |>.trans am)).snoc ag (LOK.zero oV) mV (fun a h1 h2=>?_) (b8.mono (al.trans am));exact absurd (a3 a h1 h2) mV
   exact G.b (hJ (R.length+1,k5,C,(bn,bo),R++[(nmR R.length,[0],((some (⟨a0,0,none⟩:Addr)),1))],(az,b1)) _ _ _ cV (l2.trans (c0 |>.trans bi |>.trans al |>.trans am)) ⟨dV,a2,b4,b3,mV,fun _=>dV,N⟩ dV)
  case n1|n2 =>
   have f1:0<E.length:=A29.2 I;refine G.eF E.length 0 ?_;obtain⟨mL,db,cj⟩:=t.take 1 rfl;have U:Bag mL [s.arr k5,Abm bn bo C,X8 ra rc R]:=cj;rw[Aan]at db;refine G.give mL (Ai E) (.slice Y E.length Z) kV db (fun g=>?_) ?_
   ·obtain⟨ef,d9,_⟩:=U;obtain⟨rfl,_⟩:=Src.split d9;exact s.h0or k k5 ef g
   intro dk bi b8;refine G.c call167 (Ql (p:=[114]) (i:=R.length) oV mV) ?_;rintro es em al rfl;refine G.B 164 2 40 (.agg #[.string (mkS []),.slice none 0 0]) [.agg #[.string (mkS (nmR R.length)),.slice Y E.length Z]] (Rk (nmR R.length,E,(Y,Z))) ?_;intro ce cr am cc;obtain⟨bk,af,a8⟩:=U.focus 2 rfl;rw[Ajr]at af;refine G.append 164 2 40 (.agg #[.string (mkS []),.slice none 0 0]) bk (R.map Hq) [.agg #[.string (mkS (nmR R.length)),.slice Y E.length Z]] (.slice ra R.length rc) ce 0 1 1 kV rfl rfl oV af cc (Rk (nmR R.length,E,(Y,Z))) rfl oV (by simp[Ai];omega) (by simp[Ai];omega) ?_;intro eu bm P;rw[show R.map Hq++[.agg #[.string (mkS (nmR R.length)),.slice Y E.length Z]]=(R++[(nmR R.length,E,(Y,Z))]).map Hq by rw[Aza];rfl]at P;obtain⟨az,b1,rfl⟩:=P.shape;rw[Ayt]at P⊢;have N:=a8 (X8 az b1 (R++[(nmR R.length,E,(Y,Z))])) bm P;simp only[A0i,A0p]at N;refine G.p R.length 1 (R.length+1:Nat) ?_;have b3:ROK cr C.length (R++[(nmR R.length,E,(Y,Z))]):=by
    exact (hR.mono (c0 |>.trans bi |>.trans al |>.trans am)).snoc ag b9 I a3 (b8.mono (al.trans am))
   exact G.b (hJ (R.length+1,k5,C,(bn,bo),R++[(nmR R.length,E,(Y,Z))],(az,b1)) _ _ _ cV (l2.trans (c0 |>.trans bi |>.trans al |>.trans am)) ⟨dV,a2,b4,b3,mV,fun _=>dV,N⟩ dV)
 obtain rfl:R.length=n:=oV;refine G.lF R.length R.length ?_;have ch:=h0 oV;obtain⟨n0,da,hL⟩:=b5;obtain⟨rfl,dx⟩:=Src.split da;refine G.giveP (ma:=n0) (sm:=s.M k2) kV rfl (Src.apart dx) (s.h0 k k2) ?_;intro u3 l3 d4;have cu:Ac u3 (.slice ta T.length tc) 2 (T.map Dz):=hL.list d4 0 rfl;have dv:Ac u3 (.slice ra R.length rc) 2 (R.map Hq):=hL.list d4 1 rfl;refine G.l (ι:=Nat×Nat×List Am×(Option Addr×Nat)×Int) (fun i=>[(0,.v s.ptr),(4,.p 0 0),(5,.p 1001 0),(86,sV ta T.length tc),(87,iV T.length),(88,iV i.1)])
  (fun i=>[(0,⟨30,[sV none 0 0,sV none 0 0,sV none 0 0,iV 0]⟩),(1001,⟨30,[sV ta T.length tc,sV ra R.length rc,sV i.2.2.2.1.1 i.2.2.1.length i.2.2.2.1.2,iV i.2.2.2.2]⟩)])
  (fun i u' m'=>i.1<=T.length/\i.2.1<=s.n/\FOK T i.2.2.1 i.2.2.2.2 i.1/\Bag m' [s.arr i.2.1,Xm i.2.2.2.1.1 i.2.2.2.1.2 i.2.2.1])
  (fun i=>T.length-i.1) (0,k2,[],(none,0),-1)
  ⟨Azh _,ci,FOK.nil,s.bag0 k2 ⟨PH.mt,Af.nil _ _ _,trivial⟩⟩ ?_
 rintro J1 ⟨a,k3,F,⟨fa,fc⟩,lab⟩ Q u4 m4 l4 ⟨ha,a1,hF,m⟩;simp only at ha a1 hF m Q;have ax:=(bz.trans l3).trans l4;have f0:=hF.len;by_cases bd:a<T.length
 ·refine G.lT a T.length ?_;have av:T[a]?=some T[a]:=Ayr bd;have br:=hT.kd _ (Ay8 bd);obtain⟨ba,oa,rfl,ea⟩:=Ac.at' (cu.mono l4) (j:=a) (e:=Dz T[a]) (by simp[av]);generalize T[a]=x at av br ea;obtain⟨nm,kd⟩:=x;simp only at br;refine G.a ba oa T.length tc a 2 bd<|G.lU (some 2) ba (oa+a*2) (.agg #[.string (mkS nm),.int .i64 kd]) ea ?_;by_cases cy:kd=2
  ·subst cy;refine G.eT (2:Nat) 2 ?_;by_cases ey:lab<0
   ·refine G.lT lab 0 ?_;obtain⟨n5,X,au⟩:=m;obtain⟨rfl,ac⟩:=Src.split X;refine G.D call48 (Src.apart ac) (Jd (n:=2) (h.mono ax) a1 oV oV) ?_;rintro v5 u5 m5 E ⟨r5,k5,rfl,e5,a2,rfl⟩ _;have t:Bag _ [s.arr k5,Xm fa fc F]:=⟨_,Src.at ac,au⟩;by_cases d6:r5=0
    ·exact G.eT r5 0<|G.i a<|G.b (Q (a+1,k5,F,(fa,fc),(a:Int)) _ _ _ cV (l4.trans E) ⟨dV,a2,hF.lab av,t⟩ dV)
    refine G.eF r5 0<|G.eT (2:Nat) 2 ?_;have W:=ac;have aa:=au;refine G.D call48 (Src.apart W) (Jd (n:=4) (h.mono (ax.trans E)) a2 oV oV) ?_;rintro eo eg ed ak ⟨an,bf,rfl,d7,ad,rfl⟩ _;have a4:Bag _ [s.arr bf,Xm fa fc F]:=⟨_,Src.at W,aa⟩;by_cases e3:0<an
    ·refine G.gT an 0 ?_;have ab:=W;have b2:=aa;refine G.D call48 (Src.apart ab) (Jd (n:=2) (h.mono ((ax.trans E).trans ak)) ad oV oV) ?_;rintro ep eh ee cl ⟨H,bg,rfl,d8,b7,rfl⟩ _;have a5:Bag _ [s.arr bg,Xm fa fc F]:=⟨_,Src.at ab,b2⟩;refine G.B 105 3 24 (.agg #[.int .i64 0,.int .i64 0,.int .i64 0]) [.agg #[.int .i64 a,.int .i64 (1:Nat),.int .i64 H]] (Ju (a,1,H)) ?_;intro cd ei cm ca;obtain⟨bj,ae,a7⟩:=a5.focus 1 rfl;rw[Aaq]at ae;refine G.append 105 3 24 (.agg #[.int .i64 0,.int .i64 0,.int .i64 0]) bj (F.map Ch) [.agg #[.int .i64 a,.int .i64 (1:Nat),.int .i64 H]] (.slice fa F.length fc) cd 0 1 1 kV rfl rfl oV ae ca (Ju (a,1,H)) rfl oV (by simp[Ai];omega) (by simp[Ai];omega) ?_;intro et bl O;rw[show F.map Ch++[.agg #[.int .i64 a,.int .i64 (1:Nat),.int .i64 H]]=(F++[(a,1,H)]).map Ch by rw[Aza];rfl]at O;obtain⟨ay,b0,rfl⟩:=O.shape;rw[Ayt]at O⊢;have K:=a7 (Xm ay b0 (F++[(a,1,H)])) bl O;simp only[A0i,A0p]at K;exact G.i a<|G.b (Q (a+1,bg,F++[(a,1,H)],(ay,b0),lab) _ _ _ cV ((((l4.trans E).trans ak).trans cl).trans cm) ⟨dV,b7,hF.put av (.inl ⟨rfl,rfl,oV⟩),K⟩ dV)
    exact G.gF an 0<|G.eF (2:Nat) 3<|G.i a<|G.b (Q (a+1,bf,F,(fa,fc),lab) _ _ _ cV ((l4.trans E).trans ak) ⟨dV,ad,hF.skip,a4⟩ dV)
   refine G.lF lab 0<|G.eT (2:Nat) 2 ?_;obtain⟨f7,bw,aa⟩:=m;obtain⟨rfl,W⟩:=Src.split bw;refine G.D call48 (Src.apart W) (Jd (n:=4) (h.mono ax) a1 oV oV) ?_;rintro eo eg ed ak ⟨an,bf,rfl,d7,ad,rfl⟩ _;have a4:Bag _ [s.arr bf,Xm fa fc F]:=⟨_,Src.at W,aa⟩;by_cases e3:0<an
   ·refine G.gT an 0 ?_;have ab:=W;have b2:=aa;refine G.D call48 (Src.apart ab) (Jd (n:=2) (h.mono (ax.trans ak)) ad oV oV) ?_;rintro ep eh ee cl ⟨H,bg,rfl,d8,b7,rfl⟩ _;have a5:Bag _ [s.arr bg,Xm fa fc F]:=⟨_,Src.at ab,b2⟩;refine G.B 105 3 24 (.agg #[.int .i64 0,.int .i64 0,.int .i64 0]) [.agg #[.int .i64 a,.int .i64 (1:Nat),.int .i64 H]] (Ju (a,1,H)) ?_;intro cd ei cm ca;obtain⟨bj,ae,a7⟩:=a5.focus 1 rfl;rw[Aaq]at ae;refine G.append 105 3 24 (.agg #[.int .i64 0,.int .i64 0,.int .i64 0]) bj (F.map Ch) [.agg #[.int .i64 a,.int .i64 (1:Nat),.int .i64 H]] (.slice fa F.length fc) cd 0 1 1 kV rfl rfl oV ae ca (Ju (a,1,H)) rfl oV (by simp[Ai];omega) (by simp[Ai];omega) ?_;intro et bl O;rw[show F.map Ch++[.agg #[.int .i64 a,.int .i64 (1:Nat),.int .i64 H]]=(F++[(a,1,H)]).map Ch by rw[Aza];rfl]at O;obtain⟨ay,b0,rfl⟩:=O.shape;rw[Ayt]at O⊢;have K:=a7 (Xm ay b0 (F++[(a,1,H)])) bl O;simp only[A0i,A0p]at K;exact G.i a<|G.b (Q (a+1,bg,F++[(a,1,H)],(ay,b0),lab) _ _ _ cV (((l4.trans ak).trans cl).trans cm) ⟨dV,b7,hF.put av (.inl ⟨rfl,rfl,oV⟩),K⟩ dV)
   exact G.gF an 0<|G.eF (2:Nat) 3<|G.i a<|G.b (Q (a+1,bf,F,(fa,fc),lab) _ _ _ cV (l4.trans ak) ⟨dV,ad,hF.skip,a4⟩ dV)
  refine G.eF kd 2<|G.eF kd 2 ?_;by_cases d0:kd=3
  ·subst d0;refine G.eT (3:Nat) 3 ?_;obtain⟨n5,X,au⟩:=m;obtain⟨rfl,ac⟩:=Src.split X;refine G.D call48 (Src.apart ac) (Jd (n:=4) (h.mono ax) a1 oV oV) ?_;rintro v5 u5 m5 E ⟨r5,k5,rfl,e5,a2,rfl⟩ _;have t:Bag _ [s.arr k5,Xm fa fc F]:=⟨_,Src.at ac,au⟩;by_cases d6:0<r5
   ·refine G.gT r5 0<|G.B 105 3 24 (.agg #[.int .i64 0,.int .i64 0,.int .i64 0]) [.agg #[.int .i64 a,.int .i64 (2:Nat),.int .i64 (0:Nat)]] (Ju (a,2,0)) ?_;intro g6 u6 l6 e6;obtain⟨cp,be,ai⟩:=t.focus 1 rfl;rw[Aaq]at be;refine G.append 105 3 24 (.agg #[.int .i64 0,.int .i64 0,.int .i64 0]) cp (F.map Ch) [.agg #[.int .i64 a,.int .i64 (2:Nat),.int .i64 (0:Nat)]] (.slice fa F.length fc) g6 0 1 1 kV rfl rfl oV be e6 (Ju (a,2,0)) rfl oV (by simp[Ai];omega) (by simp[Ai];omega) ?_;intro w6 cq a9;rw[show F.map Ch++[.agg #[.int .i64 a,.int .i64 (2:Nat),.int .i64 (0:Nat)]]=(F++[(a,2,0)]).map Ch by rw[Aza];rfl]at a9;obtain⟨a6,c6,rfl⟩:=a9.shape;rw[Ayt]at a9⊢;have V:=ai (Xm a6 c6 (F++[(a,2,0)])) cq a9;simp only[A0i,A0p]at V;exact G.i a<|G.b (Q (a+1,k5,F++[(a,2,0)],(a6,c6),lab) _ _ _ cV ((l4.trans E).trans l6) ⟨dV,a2,hF.put av (.inr ⟨rfl,rfl,rfl⟩),V⟩ dV)
   exact G.gF r5 0<|G.i a<|G.b (Q (a+1,k5,F,(fa,fc),lab) _ _ _ cV (l4.trans E) ⟨dV,a2,hF.skip,t⟩ dV)
  exact G.eF kd 3<|G.i a<|G.b (Q (a+1,k3,F,(fa,fc),lab) _ _ _ cV l4 ⟨dV,a1,hF.skip,m⟩ dV)
 obtain rfl:a=T.length:=oV;refine G.lF T.length T.length ?_;obtain⟨n5,X,au⟩:=m;obtain⟨rfl,ac⟩:=Src.split X;refine G.giveP (ma:=n5) (sm:=s.M k3) kV rfl (Src.apart ac) (s.h0 k k3) ?_;intro u5 E dz;have du:Ac u5 (.slice fa F.length fc) 3 (F.map Ch):=au.list dz 0 rfl;exact G.gF F.length 8<|G.r (.agg #[.slice ta T.length tc,.slice ra R.length rc,.slice fa F.length fc,.int .i64 lab]) ⟨T,R,F,lab,k3,⟨_,_,_,_,_,_,rfl,cu.mono (l4.trans E),dv.mono (l4.trans E),du⟩,Av2 hT.toTOK (hR.mono ((l3.trans l4).trans E)) hF ch oV oV,dw,a1,rfl,hT.toTOK,hT.lem,Ayv hF.len hT.lem⟩
abbrev Fx:Type:=List (List UInt8)×Nat×(Option Addr×Nat)
def F3 (y:Fx):Value:=.agg #[.slice y.2.2.1 y.1.length y.2.2.2,.int .i64 y.2.1]
def Xx (x:Fx):Ba 2 [F3 x]:=by
 intro e g;simp at g;subst g;exact⟨rfl,fun y h=>by simp[F3,Value.cells]at h;rcases h with rfl|rfl<;>rfl⟩
def Aq9 (a:Option Addr)(c:Nat)(L:List Fx):Arr:=⟨.slice a L.length c,56,2,L.map F3⟩
def Ats {a:Option Addr}{c:Nat}{L:List Fx}{m0 m:PH}:(Aq9 a c L).At m0 m=Af m0 m (.slice a L.length c) 56 2 (L.map F3):=rfl
def WOK (u:PH)(T:List (List UInt8×Nat))(L:List Fx):Prop:=∀ y∈L,Ac u (.slice y.2.2.1 y.1.length y.2.2.2) 1 (y.1.map nmV)/\Cd T y.1/\1<=y.2.1/\y.2.1<=7
def WOK.mono {u u':PH}{T:List (List UInt8×Nat)}{L:List Fx}(h:WOK u T L)(hl:PH.le u u'):WOK u' T L:=fun y hy=>⟨(h y hy).1.mono hl,(h y hy).2⟩
def W9 (T:List (List UInt8×Nat))(L:List Fx):Prop:=∀ y∈L,∀ (i:Nat) (x:List UInt8×Nat) (t:List UInt8),T[i]?=some x->y.1[i]?=some t->Yd x.2 t
def Agp {u:PH}{s:Src}{ts:List Int}{k most:Nat}{v:Value}{T:List (List UInt8×Nat)}{R:List Bu}{F:List Am}{lab:Int}(h:Ig u s ts)(hk:k<=s.n)(hX:G8 u v T R F lab)(ok:Bt u T R F lab)(hm:most<=100) :
 Ag prog 44 [s.ptr,v,.int .i64 most] u (s.M k) fun r W m'=>∃ (L:List Fx) (k':Nat),Ac W r 2 (L.map F3)/\L.length<=most/\WOK W T L/\W9 T L/\k'<=s.n/\m'=s.M k':=by
 obtain⟨xa,xc,xb,xd,xe,xf,rfl,a0,a9,a8⟩:=id hX;have t2:=ok.t2;refine Ag.o func44<|G.i most<|G.A call48 (Jd (n:=most+1) h hk oV oV) ?_;rintro v1 u1 m1 l1 ⟨r,k1,rfl,hr,a1,rfl⟩ _;rw[Bw];refine G.l (ι:=Nat×Nat×List Fx×(Option Addr×Nat)) (fun i=>[(0,.v s.ptr),(4,.p 0 0),(7,sV i.2.2.2.1 i.2.2.1.length i.2.2.2.2),(8,iV i.1)])
  (fun _=>[(0,⟨30,[sV xa T.length xc,sV xb R.length xd,sV xe F.length xf,iV lab]⟩)])
  (fun i W m'=>i.1+i.2.2.1.length=r/\i.2.1<=s.n/\WOK W T i.2.2.1/\W9 T i.2.2.1/\Bag m' [s.arr i.2.1,Aq9 i.2.2.2.1 i.2.2.2.2 i.2.2.1])
  (fun i=>i.1) (r,k1,[],(none,0))
  ⟨rfl,a1,fun y e=>by simp at e,fun y e=>by simp at e,s.bag0 k1 ⟨PH.mt,Af.nil _ _ _,trivial⟩⟩ ?_
 rintro J ⟨i,k2,L,⟨na,nc⟩⟩ hJ u2 m2 l2 ⟨hi,K,hW,X,m⟩;simp only at hi K hW X m hJ;have N:=l1.trans l2;obtain⟨m0,Q,hL⟩:=m;obtain⟨rfl,g⟩:=Src.split Q;by_cases aa:0<i
 ·refine G.gT i 0<|G.D call98 (Src.apart g) (Alg (w:=.slice xb R.length xd) (x:=.slice xe F.length xf) (y:=.int .i64 lab) (h.mono N) K (a0.mono N) oV ok.att.kind ⟨_,_,_,rfl⟩ ⟨_,_,_,rfl⟩ ⟨_,rfl⟩) ?_;rintro v3 u3 m3 V ⟨ss,k3,Y,Z,O,a2,rfl⟩ _;obtain⟨C,E,rfl⟩:=Y.opn;rw[Ayt]at Y⊢;refine G.buildU 3 1 8 (.int .i64 0) (Dj [1,1,2,7]) kV (Ll _) rfl oV (by simp[Dj]) (by simp[Dj]) ?_;intro g4 u4 l4 e4;refine G.D call99 (Src.apart g) (W1 (L:=[1,1,2,7]) (h.mono ((N.trans V).trans l4)) a2 e4.listP mV mV) ?_;rintro v5 u5 m5 l5 ⟨z,hz,k5,rfl,a3,rfl⟩ _;obtain⟨w,rfl,a5,a6⟩:∃ w:Nat,z=(w:Int)/\1<=w/\w<=7:=by
   simp at hz;rcases hz with rfl|rfl|rfl
   ·exact⟨1,rfl,oV,oV⟩
   ·exact⟨2,rfl,oV,oV⟩
   exact⟨7,rfl,oV,oV⟩
  refine G.B 56 2 32 (.agg #[.slice none 0 0,.int .i64 0]) [.agg #[.slice C ss.length E,.int .i64 w]] (Xx (ss,w,C,E)) ?_;intro g6 u6 l6 e6;have H:Bag (m0.or (s.M k5)) [s.arr k5,Aq9 na nc L]:=⟨m0,Src.at g,hL⟩;obtain⟨mm,U,P⟩:=H.focus 1 rfl;rw[Ats]at U;refine G.k 56 2 32 (.agg #[.slice none 0 0,.int .i64 0]) mm (L.map F3) [F3 (ss,w,C,E)] (.slice na L.length nc) g6 0 1 1 U e6 (Xx (ss,w,C,E)) ?_;intro v7 m7 j;rw[show L.map F3++[F3 (ss,w,C,E)]=(L++[(ss,w,C,E)]).map F3 by rw[Aza];rfl]at j;obtain⟨a7,c7,rfl⟩:=j.shape;rw[Ayt]at j⊢;have I:=P (Aq9 a7 c7 (L++[(ss,w,C,E)])) m7 j;have lx:=((V.trans l4).trans l5).trans l6;refine G.s i 1 (i-1:Nat)<|G.b (hJ (i-1,k5,L++[(ss,w,C,E)],(a7,c7)) _ _ _ cV (l2.trans lx) ⟨by dsimp only;simp;omega,a3,?_,?_,I⟩ dV)
  ·intro y e;rcases Ay5.1 e with e|e
   ·exact hW.mono lx y e
   simp only[Azs]at e;subst e;exact⟨Y.mono ((l4.trans l5).trans l6),⟨Z,fun i x t h1 h2=>(O i x t h1 h2).ok⟩,a5,a6⟩
  intro y e;rcases Ay5.1 e with e|e
  ·exact X y e
  simp only[Azs]at e;subst e;exact O
 obtain rfl:i=0:=oV;refine G.gF (0:Nat) 0<|G.giveP (ma:=m0) (sm:=s.M k2) kV rfl (Src.apart g) (s.h0 k k2) ?_;intro u3 V a4;exact G.r (.slice na L.length nc) ⟨L,k2,hL.list a4 0 rfl,oV,hW.mono V,X,K,rfl⟩
def Ak7 {u:PH}{v K:Value}{T:List (Par×Rat)}(h:Ac u v 3 (T.map As))(m:Ac u K 3 (T.map As))(R:T.length<=1000000) :
 Fn0 prog 29 [v,K] u fun r _=>r=.bool true:=by
 obtain⟨a,c,rfl⟩:=h.opn;obtain⟨L,F,rfl⟩:=m.opn;rw[Ayt]at h m⊢;refine Fn0.o func29<|G.nF T.length T.length<|G.l (ι:=Nat) (fun i=>[(0,sV a T.length c),(1,sV L T.length F),(12,iV T.length),(13,iV i)]) (fun _=>[])
  (fun i V Q=>i<=T.length/\Q=PH.mt) (fun i=>T.length-i) 0 ⟨oV,rfl⟩ ?_
 rintro J i P W U t ⟨hi,rfl⟩;by_cases n:i<T.length
 ·refine G.lT i T.length ?_;have g:T[i]?=some T[i]:=Ayr n;obtain⟨C,H,rfl,N⟩:=Ac.at' (h.mono t) (j:=i) (e:=As T[i]) (by simp[g]);obtain⟨E,I,rfl,O⟩:=Ac.at' (m.mono t) (j:=i) (e:=As T[i]) (by simp[g]);exact G.a C H T.length c i 3 oV<|G.lU (some 3) C (H+i*3) (As T[i]) N<|G.a E I T.length F i 3 oV<|G.lU (some 3) E (I+i*3) (As T[i]) O<|G.neAgg 65 #[.int .i64 T[i].1.1,.string (mkS T[i].1.2),.string (mkS (Ae T[i].2))] #[.int .i64 T[i].1.1,.string (mkS T[i].1.2),.string (mkS (Ae T[i].2))] true kV kV kV (Avv T[i])<|G.i i<|G.b (P (i+1) _ _ _ cV t ⟨oV,rfl⟩ oV)
 obtain rfl:i=T.length:=oV;exact G.lF T.length T.length<|G.r (.bool true) ⟨rfl,rfl⟩
section
variable {F:List Am}{R:List Bu}{T:List (List UInt8×Nat)}{lab:Int}{u:PH}
def J0 {α:Type}{p:List α->Prop}(h0:p [])(h1:∀ l a,p l->p (l++[a]))(l:List α):p l:=by
 have:∀ r:List α,p r.reverse:=fun r=>by
  induction r with
  |nil=>exact h0
  |cons a r ih=>rw[List.reverse_cons];exact h1 _ _ ih
 have:=this l.reverse;rwa[List.reverse_reverse]at this
noncomputable def Ce (F:List Am)(lab:Int)(L:List Fx):CF:=L.foldl (fun C y=>C.add ((cfT F lab y.1).scale (y.2.1:Rat))) (CF.num 0)
def Er (F:List Am)(lab:Int)(L:List Fx)(y:Fx):Ce F lab (L++[y])=(Ce F lab L).add ((cfT F lab y.1).scale (y.2.1:Rat)):=by
 unfold Ce;rw[A41];rfl
def Ami {w:Nat}(h:w<=7):Dn 0 7 (w:Rat):=⟨(w:Int),by simp[Az2],by simpa using h⟩
def Ams {ss:List (List UInt8)}(ok:Bt u T R F lab)(g:Cd T ss):CFD (2*T.length) (1374926400^T.length) (cfT F lab ss)/\CFV (cfT F lab ss):=by
 have e:=N8 ok g;have h:(E8 F lab ss).length=T.length:=by rw[Gf];exact g.len
 have:=Q7 e (E8 F lab ss).length (Ay2 _);rw[Azj,h]at this;exact this
theorem As1 (ok:Bt u T R F lab):∀ {L:List Fx},(∀ y∈L,Cd T y.1/\y.2.1<=7)->CFD (2*T.length) (L.length*(1374926400^T.length*7)) (Ce F lab L)/\CFV (Ce F lab L):=by
 intro L;induction L using J0 with
 |h0=>exact fun _=>⟨CFD.count (Dn.zero _ _),CFV.count 0⟩
 |h1 L y ih =>
  intro h;obtain⟨i1,i2⟩:=ih fun z hz=>h z (A0x _ hz);obtain⟨h1,h2⟩:=h y mV;obtain⟨c1,c2⟩:=Ams ok h1;rw[Er];refine⟨?_,i2.add (c2.scale _)⟩;have:=i1.add (c1.scale (Ami h2));rw[Ay3,A0u,Azt,A1k];exact this
end
section
variable {F:List Am}{T:List (List UInt8×Nat)}{lab:Int}
def Au4 {ss:List (List UInt8)}(hF:C5 T F lab)(m:Cd T ss)(e:-1<=lab)(g:∀ l:Nat,lab=(l:Int)->l<ss.length) :
 ((cfT F lab ss).c=1/\∀ p q,(cfT F lab ss).t (A2 p q)=(cfT F lab ss).s p*(cfT F lab ss).s q)\/((cfT F lab ss).c=0/\(∀ p,(cfT F lab ss).s p=0)/\∀ k,(cfT F lab ss).t k=0):=by
 cases hc:Mo F lab ss with
 |false=>right;rw[Ap7 hF m e g hc];exact⟨rfl,fun _=>rfl,fun _=>rfl⟩
 |true =>
  left;have j:=Aka hF m e g hc;refine⟨j.c,fun p q=>?_⟩;rw[j.t,if_neg (S5 p q)];by_cases h:0<Bf p q
  ·rw[Nf h];grind
  rw[Gt h]
def Aga (n:Nat):(0:Rat)<=(n:Rat):=by
 have:((0:Nat):Rat)<=(n:Rat):=by exact_mod_cast Azh n
 exact this
theorem Afz (hF:C5 T F lab)(h1:-1<=lab)(h2:∀ l:Nat,lab=(l:Int)->l<T.length):∀ {L:List Fx},(∀ y∈L,Cd T y.1/\y.2.1<=7)->∃ k:Nat,(Ce F lab L).c=(k:Rat)/\k<=7*L.length:=by
 intro L;induction L using J0 with
 |h0=>exact fun _=>⟨0,rfl,mV⟩
 |h1 L y ih =>
  intro h;obtain⟨k,hk,hkl⟩:=ih fun z hz=>h z (A0x _ hz);obtain⟨hy,hw⟩:=h y mV;have hlen:=hy.len;rw[Er];show ∃ k:Nat,(Ce F lab L).c+(cfT F lab y.1).c*(y.2.1:Rat)=(k:Rat)/\_;rw[hk];rw[Ay3,A0u];rcases Au4 hF hy h1 (fun l hl=>by have:=h2 l hl;omega) with ⟨e1,_⟩|⟨e1,_⟩
  ·exact⟨k+y.2.1,by rw[e1,A5j];grind,oV⟩
  ·exact⟨k,by rw[e1];grind,oV⟩
end
section
variable {a b c d:Nat}{q:Rat}
def De (a b:Nat)(q:Rat):Prop:=∃ (k:Int) (D:Nat),q*(D:Rat)=(k:Rat)/\0<D/\k.natAbs<10^a/\D<10^b
def Mx {D:Nat}(h:0<D):(D:Rat)≠0:=by
 intro e;have g:(D:Rat)=((0:Nat):Rat):=e;have:=A6x.1 g;omega
def De.mono (h:De a b q)(h1:a<=c)(h2:b<=d):De c d q:=by
 obtain⟨k,D,e,h0,h3,h4⟩:=h;exact⟨k,D,e,h0,A0k h3 (Azr oV h1),A0k h4 (Azr oV h2)⟩
def Hm {x y a b:Nat}(e:x<10^a)(g:y<10^b):x*y<10^(a+b):=by
 rw[A3a];exact Nat.mul_lt_mul'' e g
def De.add {a b c d f:Nat}{q r:Rat}(h:De a b q)(n:De c d r)(t:a+d<=f)(u:c+b<=f):De (f+1) (b+d) (q+r):=by
 obtain⟨k,D,e,h0,C,g⟩:=h;obtain⟨l,E,m,F,H,j⟩:=n;refine⟨k*(E:Int)+l*(D:Int),D*E,?_,A24 h0 F,?_,Hm g j⟩
 ·rw[A28,A0v,A0v,<-e,<-m,A10,Az2,Az2];grind
 have g1:(k*(E:Int)).natAbs<10^f:=by
  rw[A15];exact A0k (Hm C (by simpa using j)) (Azr oV t)
 have g2:(l*(D:Int)).natAbs<10^f:=by
  rw[A15];exact A0k (Hm H (by simpa using g)) (Azr oV u)
 rw[A0d];omega
def De.nat {a n:Nat}(h:n<10^a):De a 1 (n:Rat):=⟨(n:Int),1,by rw[Az2];show (n:Rat)*1=_;grind,oV,by simpa using h,oV⟩
def De.frac (h:De a b q):q.num.natAbs<10^a/\q.den<10^b:=by
 obtain⟨k,D,j,hp,m,C⟩:=h;have n:q=Rat.divInt k (D:Int):=by
  rw[A2g,Az2,<-j];have:=Mx hp;grind
 obtain⟨e,g,t⟩:=O6 (y:=k) (z:=(D:Int)) oV;rw[n];constructor
 ·rw[e,A6v];exact A0r (A16 _ _) m
 have u:((Rat.divInt k (D:Int)).den:Int)<=(D:Int):=by
  rw[g,show ((D:Int)).natAbs=D from rfl,A2a oV,<-A23];exact A83.2 (A16 _ _)
 omega
def De.tx (h:De a b q)(n:0<a)(e:a<=400)(t:0<b)(g:b<=400):Tx q:=by
 obtain⟨j,m⟩:=h.frac;exact⟨Ayv (D9 n j) e,Ayv (D9 t m) g⟩
def De.szn (h:De a b q)(j:0<a)(e:a<=400)(m:0<b)(g:b<=400):Sz q 400:=(h.tx j e m g).sz
def Dn.de {d N a b:Nat}(h:Dn d N q)(j:N<10^a)(g:12^d<10^b):De a b q:=by
 obtain⟨k,e,m⟩:=h;exact⟨k,12^d,e,Abb d,oV,g⟩
end
section
variable {H:CF}
def Ao {α:Type}(f:α->Rat):List α->Rat
 |[]=>0
 |a::l=>f a+Ao f l
section
variable {α β:Type} {f g:α->Rat}
def Nw:∀ (l e:List α),Ao f (l++e)=Ao f l+Ao f e
 |[],e=>by show Ao f e=0+Ao f e;grind
 |a::l,e=>by show f a+Ao f (l++e)=f a+Ao f l+Ao f e;rw[Nw l e];grind
def Fs (l:List α)(a:α):Ao f (l++[a])=Ao f l+f a:=by
 rw[Nw];show _+(f a+0)=_;grind
def A7:∀ {l:List α},(∀ a∈l,f a=g a)->Ao f l=Ao g l
 |[],_=>rfl
 |a::l,h=>by
  show f a+Ao f l=g a+Ao g l;rw[h a (A1c ..),A7 fun x e=>h x (Azq _ e)]
def Ea:∀ (l:List α),Ao (fun a=>f a+g a) l=Ao f l+Ao g l
 |[]=>by show (0:Rat)=0+0;grind
 |a::l=>by show f a+g a+Ao (fun a=>f a+g a) l=(f a+Ao f l)+(g a+Ao g l);rw[Ea l];grind
def Fg (k:Rat):∀ (l:List α),Ao (fun a=>f a*k) l=Ao f l*k
 |[]=>by show (0:Rat)=0*k;grind
 |a::l=>by show f a*k+Ao (fun a=>f a*k) l=(f a+Ao f l)*k;rw[Fg k l];grind
def Dp (k:Rat)(l:List α):Ao (fun a=>k*f a) l=k*Ao f l:=by
 rw[show (fun a=>k*f a)=fun a=>f a*k from funext fun a=>by grind,Fg];grind
def Ca:∀ {l:List α},(∀ a∈l,f a=0)->Ao f l=0
 |[],_=>rfl
 |a::l,h=>by
  show f a+Ao f l=0;rw[h a (A1c ..),Ca fun x e=>h x (Azq _ e)];grind
def R2 (h:β->α):∀ (l:List β),Ao f (l.map h)=Ao (fun b=>f (h b)) l
 |[]=>rfl
 |a::l=>by show f (h a)+Ao f (l.map h)=f (h a)+Ao (fun b=>f (h b)) l;rw[R2 h l]
end
def Ah (P:List Par):List (Option Par):=none::P.map some
def B7:Par:=(-1,[])
def Ar (C:CF):Option Par->Option Par->Rat
 |none,none=>C.c
 |none,some p=>C.s p
 |some p,none=>C.s p
 |some p,some q=>C.t (A2 p q)
def Au (C:CF):Option Par->Rat
 |none=>C.s B7
 |some p=>C.t (A2 B7 p)
def Ba9 (b:Option Par->Rat)(P:List Par)(C:CF):Rat:=Ao (fun e=>Ao (fun f=>b e*Ar C e f*b f) (Ah P)) (Ah P)
def Aw8 (b:Option Par->Rat)(P:List Par)(C:CF):Rat:=C.s B7-Ao (fun e=>b e*Ar C none e) (Ah P)
def sqC (b:Option Par->Rat)(P:List Par)(C:CF):Rat:=Ba9 b P C+C.t (A2 B7 B7)-2*Ao (fun e=>b e*Au C e) (Ah P)
def O3 (C H:CF)(w:Rat)(e f:Option Par):Ar (C.add (H.scale w)) e f=Ar C e f+Ar H e f*w:=by
 cases e<;>cases f<;>rfl
def Pk (C H:CF)(w:Rat)(e:Option Par):Au (C.add (H.scale w)) e=Au C e+Au H e*w:=by
 cases e<;>rfl
def Yn (b:Option Par->Rat)(P:List Par)(C H:CF)(w:Rat):Ba9 b P (C.add (H.scale w))=Ba9 b P C+Ba9 b P H*w:=by
 unfold Ba9;rw[<-Fg w,<-Ea];refine A7 fun e _=>?_;rw[<-Fg w,<-Ea];refine A7 fun f _=>?_;rw[O3];grind
def Aa5 (b:Option Par->Rat)(P:List Par)(C H:CF)(w:Rat):sqC b P (C.add (H.scale w))=sqC b P C+sqC b P H*w:=by
 unfold sqC;have h:Ao (fun e=>b e*Au (C.add (H.scale w)) e) (Ah P)=Ao (fun e=>b e*Au C e) (Ah P)+Ao (fun e=>b e*Au H e) (Ah P)*w:=by
  rw[<-Fg w,<-Ea];exact A7 fun e _=>by rw[Pk];grind
 rw[h,Yn];show _+(C.t (A2 B7 B7)+H.t (A2 B7 B7)*w)-_=_;grind
def T3 (b:Option Par->Rat)(P:List Par)(x:Par->Rat):Rat:=b none+Ao (fun p=>b (some p)*x p) P
def Ace (x:Par->Rat):Option Par->Rat
 |none=>1
 |some p=>x p
def Wj (b:Option Par->Rat)(P:List Par)(x:Par->Rat):Ao (fun e=>b e*Ace x e) (Ah P)=T3 b P x:=by
 unfold Ah T3;show b none*1+Ao _ (P.map some)=_;rw[R2];show b none*1+Ao (fun p=>b (some p)*x p) P=_;grind
structure Yk (H:CF):Prop where
 c:H.c=1
 t:∀ p q,H.t (A2 p q)=H.s p*H.s q
def Yk.cell (h:Yk H)(e f:Option Par):Ar H e f=Ace H.s e*Ace H.s f:=by
 cases e<;>cases f
 ·show H.c=1*1;rw[h.c];grind
 ·show H.s _=1*H.s _;grind
 ·show H.s _=H.s _*1;grind
 exact h.t _ _
def Yk.right (h:Yk H)(e:Option Par):Au H e=H.s B7*Ace H.s e:=by
 cases e
 ·show H.s B7=H.s B7*1;grind
 exact h.t _ _
def Yk.norm (h:Yk H)(b:Option Par->Rat)(P:List Par):Ba9 b P H=T3 b P H.s*T3 b P H.s:=by
 unfold Ba9;have j:∀ e,Ao (fun f=>b e*Ar H e f*b f) (Ah P)=(b e*Ace H.s e)*T3 b P H.s:=fun e=>by
  rw[<-Wj,<-Dp];exact A7 fun f _=>by rw[h.cell];grind
 rw[A7 fun e _=>j e,Fg,Wj]
def Yk.sq (h:Yk H)(b:Option Par->Rat)(P:List Par):sqC b P H=(H.s B7-T3 b P H.s)*(H.s B7-T3 b P H.s):=by
 unfold sqC;have j:Ao (fun e=>b e*Au H e) (Ah P)=H.s B7*T3 b P H.s:=by
  rw[<-Wj,<-Dp];exact A7 fun e _=>by rw[h.right];grind
 rw[h.norm,j,h.t];grind
structure Ae6 (H:CF):Prop where
 c:H.c=0
 s:∀ p,H.s p=0
 t:∀ k,H.t k=0
def Ae6.cell (h:Ae6 H)(e f:Option Par):Ar H e f=0:=by
 cases e<;>cases f
 ·exact h.c
 ·exact h.s _
 ·exact h.s _
 exact h.t _
def Ae6.norm (h:Ae6 H)(b:Option Par->Rat)(P:List Par):Ba9 b P H=0 :=
 Ca fun e _=>Ca fun f _=>by rw[h.cell];grind
def Ae6.sq (h:Ae6 H)(b:Option Par->Rat)(P:List Par):sqC b P H=0:=by
 unfold sqC;have j:Ao (fun e=>b e*Au H e) (Ah P)=0:=Ca fun e _=>by
  cases e
  ·show b none*H.s B7=0;rw[h.s];grind
  show b _*H.t _=0;rw[h.t];grind
 rw[h.norm,h.t,j];grind
def Lr {T:List (List UInt8×Nat)}{F:List Am}{lab:Int}{ss:List (List UInt8)}(hF:C5 T F lab)(n:Cd T ss)(e:-1<=lab)(j:∀ l:Nat,lab=(l:Int)->l<ss.length) :
 (Mo F lab ss=true/\Yk (cfT F lab ss))\/(Mo F lab ss=false/\Ae6 (cfT F lab ss)):=by
 cases hc:Mo F lab ss with
 |false=>right;rw[Ap7 hF n e j hc];exact⟨rfl,rfl,fun _=>rfl,fun _=>rfl⟩
 |true =>
  left;have m:=Aka hF n e j hc;refine⟨rfl,m.c,fun p q=>?_⟩;rw[m.t,if_neg (S5 p q)];by_cases h:0<Bf p q
  ·rw[Nf h];grind
  rw[Gt h]
def Ow {P:List Par}(C:P.Nodup){M:List (Par×Rat)}(u:(M.map (·.1)).Nodup)(n:∀ x∈M,x.1∈P)(x:Par->Rat):Ao (fun p=>Ap p M*x p) P=Ao (fun m=>m.2*x m.1) M:=by
 induction M generalizing P with
 |nil=>exact Ca fun p _=>by show (0:Rat)*x p=0;grind
 |cons m M ih =>
  simp only[Azu,A1i]at u;have J:=n m (A1c ..);have h:∀ p,Ap p (m::M)=if p=m.1 then m.2 else Ap p M:=fun p=>by
   obtain⟨k,q⟩:=m;rfl
  obtain⟨A,B,rfl⟩:=A3i J;have h0:Ap m.1 M=0:=F7 u.1;rw[A1h]at C;obtain⟨I,t,j⟩:=C;rw[A1i]at t;have hi:=ih (P:=A++m.1::B) (by rw[A1h];exact⟨I,by rw[A1i];exact t,j⟩) u.2 fun y K=>n y (Azq _ K);rw[Nw]at hi⊢;have E:Ao (fun p=>Ap p (m::M)*x p) A=Ao (fun p=>Ap p M*x p) A:=A7 fun p hp=>by
   rw[h,if_neg fun e=>j p hp m.1 (A1c ..) e]
  have F:Ao (fun p=>Ap p (m::M)*x p) B=Ao (fun p=>Ap p M*x p) B:=A7 fun p hp=>by
   rw[h,if_neg (fun e:p=m.1=>t.1 (e▸hp))]
  show _+(Ap m.1 (m::M)*x m.1+Ao _ B)=m.2*x m.1+Ao (fun m=>m.2*x m.1) M;rw[<-hi,E,F,h,if_pos rfl];show _=m.2*x m.1+(_+(Ap m.1 M*x m.1+_));rw[h0];grind
end
section
variable {F:CF}{N:Nat}{q:Rat}{u:PH}{v:Value}
def Aap (p:Par)(h:Rc u v F N):Fn0 prog 173 [v,Aq p] u fun r T=>Ax T r (F.s p):=by
 obtain⟨b,a,n,c,b',U,n',V,g1,g2,O,o2,rfl,Y,J,W,P,X⟩:=h;obtain⟨l,K,Q,R,_⟩:=P.at;refine Fn0.o func173 ?_;cases hx:Gx p l with
 |none =>
  refine G.mapNot (et:=118) Bx fz g1 O l p kV kV (.inl J) K hx<|G.c call171 (Uz (z:=0) oV oV) ?_;intro v1 u1 Z I;rw[R p (Hb.1 hx)];rw[show ((0:Int):Rat)=0 by decide +kernel]at I;obtain⟨C,t,H,E,g,e,m,j,rfl⟩:=I.opn;exact G.r (.agg #[.bool C,.slice t H E,.bool g,.slice e m j]) ⟨rfl,I⟩
 |some xv =>
  have L:=(Q _ (I6 hx)).1;obtain⟨C,t,H,E,g,e,m,j,rfl⟩:=L.opn;exact G.mapHas (et:=118) Bx fz g1 O l p (.agg #[.bool C,.slice t H E,.bool g,.slice e m j]) kV kV (.inl J) K hx<|G.r (.agg #[.bool C,.slice t H E,.bool g,.slice e m j]) ⟨rfl,L⟩
def Xs (p q:Par)(h:Rc u v F N):Fn0 prog 108 [v,Aq p,Aq q] u fun r V=>Ax V r (F.t (A2 p q)):=by
 obtain⟨b,a,n,c,b',W,n',X,g1,g2,o1,Q,rfl,hc,Y,L,Z,R⟩:=h;obtain⟨l,O,T,U,_⟩:=R.at;refine Fn0.o func108<|G.c call172 (Axp p q) ?_;rintro v0 u0 K rfl;cases hx:Gx (A2 p q) l with
 |none =>
  refine G.mapNot (et:=118) Ao4 fz g2 Q l (A2 p q) kV kV (.inl (K _ _ L)) O hx<|G.c call171 (Uz (z:=0) oV oV) ?_;intro v1 u1 l1 J;rw[U _ (Hb.1 hx)];rw[show ((0:Int):Rat)=0 by decide +kernel]at J;obtain⟨E,C,I,H,g,e,m,j,rfl⟩:=J.opn;exact G.r (.agg #[.bool E,.slice C I H,.bool g,.slice e m j]) ⟨rfl,J⟩
 |some xv =>
  have P:=(T _ (I6 hx)).1;obtain⟨E,C,I,H,g,e,m,j,rfl⟩:=P.opn;exact G.mapHas (et:=118) Ao4 fz g2 Q l (A2 p q) (.agg #[.bool E,.slice C I H,.bool g,.slice e m j]) kV kV (.inl (K _ _ L)) O hx<|G.r (.agg #[.bool E,.slice C I H,.bool g,.slice e m j]) ⟨rfl,P.mono K⟩
def Aee (h:Tx q):Fn0 prog 151 [.string (mkS (Ae q))] u fun v _=>v=.int .i64 (sgn q.num):=by
 refine Fn0.o func151<|G.c call143 (Eo h) ?_;rintro P K H rfl;refine G.c call54 (Dr h) ?_;intro Q L l2 e;obtain⟨C,t,J,E,j,g,n,m,rfl⟩:=e.opn;refine G.c call208 (Akw e (Ayv h.sz.1 oV)) ?_;rintro R O I rfl;exact G.r _ ⟨rfl,rfl⟩
def Acv (h:Tx q):Fn0 prog 35 [.string (mkS (Ae q))] u fun v _=>v=.int .i64 (sgn q.num):=by
 refine Fn0.o func35<|G.c call18 (D1 h) ?_;rintro P K E rfl;refine G.c call19 (F0 h) ?_;intro Q L H e;obtain⟨t,n,J,C,g,m,j,rfl,_⟩:=e.opn;refine G.c call39 (Aci e (Ayv h.sz.1 oV)) ?_;rintro R O I rfl;exact G.r _ ⟨rfl,rfl⟩
end
section
variable {C:CF}{k:Nat}
structure Pm (C:CF)(k:Nat):Prop where
 c:C.c=(k:Rat)
 lt:k<100
 s:∀ p,De 75 18 (C.s p)
 t:∀ p,De 75 18 (C.t p)
def Pm.tx {C:CF}{k:Nat}(h:Pm C k):Tx C.c:=by
 rw[h.c];exact (De.nat (a:=2) (by have:=h.lt;omega)).tx oV oV oV oV
def Pm.cpos (h:Pm C k)(h0:k≠0):0<C.c:=by
 rw[h.c];have g:=Aga k;refine Rat.lt_of_le_of_ne g fun e=>Mx (D:=k) oV e.symm
def Pm.csz (h:Pm C k):Sz C.c 1000:=h.tx.sz.mono oV
end
section
variable {C:CF}{N i:Nat}{P:List Par}{b:Option Par->Rat}{e:Option Par}{lv v:Value}{u:PH}
structure Aah (u:PH)(v:Value)(P:List Par)(b:Option Par->Rat):Prop where
 val:∃ a c a' c',v=.agg #[.slice a P.length c,.slice a' (P.length+1) c']/\Ac u (.slice a P.length c) 2 (P.map Aq)/\It u (.slice a' (P.length+1) c') ((Ah P).map b)
def Aah.mono {u u':PH}{v:Value}{P:List Par}{b:Option Par->Rat}(h:Aah u v P b)(hl:PH.le u u'):Aah u' v P b:=by
 obtain⟨a,c,a',c',e,h1,h2⟩:=h.val;exact⟨a,c,a',c',e,h1.mono hl,h2.mono hl⟩
def Bk (P:List Par):(Ah P).length=P.length+1:=by unfold Ah;simp
def Q9 (h:(Ah P)[i]?=some e):(i=0/\e=none)\/∃ j p,i=j+1/\P[j]?=some p/\e=some p:=by
 unfold Ah at h;cases i with
 |zero=>simp at h;exact .inl ⟨rfl,h.symm⟩
 |succ j =>
  rw[A2k,Ayy]at h;obtain⟨p,hp,rfl⟩:=A3c.1 h;exact .inr ⟨j,p,rfl,hp,rfl⟩
def Aca :Fn0 prog 109 [] u fun r _=>r=Aq B7:=Fn0.o func109<|G.r (Aq B7) ⟨rfl,rfl⟩
def Vc {F:CF}(h:Rc u v F N):∃ b a n c b' g m j g1 g2,v=.agg #[.bool b,.slice a n c,.bool b',.slice g m j,.map (some g1),.map (some g2)]/\Ax u (.agg #[.bool b,.slice a n c,.bool b',.slice g m j]) F.c:=by
 obtain⟨b,a,n,c,b',g,m,j,g1,g2,E,H,e,t,_⟩:=h;exact⟨b,a,n,c,b',g,m,j,g1,g2,e,t⟩
def V4 {N i k:Nat}{e f:Option Par}(hl:Aah u lv P b)(V:Rc u v C N)(hP:P.length<=1000)(he:(Ah P)[i]?=some e)(hf:(Ah P)[k]?=some f) :
 Fn0 prog 149 [lv,v,.int .i64 i,.int .i64 k] u fun r u'=>Ax u' r (Ar C e f):=by
 obtain⟨pa,W,ca,cc,rfl,I,_⟩:=hl.val;obtain⟨b0,a0,n0,c0,Y,X,a3,Z,g1,g2,rfl,hc⟩:=Vc V;refine Fn0.o func149 ?_;rcases Q9 he with ⟨rfl,rfl⟩|⟨i,p,rfl,R,rfl⟩
 ·refine G.eT' (0:Nat) 0 rfl ?_;rcases Q9 hf with ⟨rfl,rfl⟩|⟨k,q,rfl,n,rfl⟩
  ·exact G.eT' (0:Nat) 0 rfl<|G.r (.agg #[.bool b0,.slice a0 n0 c0,.bool Y,.slice X a3 Z]) ⟨rfl,hc⟩
  have J:=(Ayu.1 n).1;refine G.eF (k+1:Nat) 0<|G.eT' (0:Nat) 0 rfl<|G.s (k+1:Nat) 1 k ?_;obtain⟨E,F,rfl,U⟩:=Ac.at' I (j:=k) (e:=Aq q) (by simp[n]);refine G.a E F P.length W k 2 J<|G.lU (some 2) E (F+k*2) (Aq q) U<|G.c call173 (Aap q V) ?_;intro v1 u1 l1 H;obtain⟨L,K,T,O,h,g,t,m,rfl⟩:=H.opn;exact G.r (.agg #[.bool L,.slice K T O,.bool h,.slice g t m]) ⟨rfl,H⟩
 have Q:=(Ayu.1 R).1;obtain⟨E,F,rfl,U⟩:=Ac.at' I (j:=i) (e:=Aq p) (by simp[R]);refine G.eF (i+1:Nat) 0<|G.eF (i+1:Nat) 0 ?_;rcases Q9 hf with ⟨rfl,rfl⟩|⟨k,q,rfl,n,rfl⟩
 ·refine G.eT' (0:Nat) 0 rfl<|G.s (i+1:Nat) 1 i<|G.a E F P.length W i 2 Q<|G.lU (some 2) E (F+i*2) (Aq p) U<|G.c call173 (Aap p V) ?_;intro v1 u1 l1 H;obtain⟨L,K,T,O,h,g,t,m,rfl⟩:=H.opn;exact G.r (.agg #[.bool L,.slice K T O,.bool h,.slice g t m]) ⟨rfl,H⟩
 have J:=(Ayu.1 n).1;obtain⟨b2,o2,e2,a2⟩:=Ac.at' I (j:=k) (e:=Aq q) (by simp[n]);cases e2;refine G.eF (k+1:Nat) 0<|G.s (i+1:Nat) 1 i<|G.a E F P.length W i 2 Q<|G.lU (some 2) E (F+i*2) (Aq p) U<|G.s (k+1:Nat) 1 k<|G.a E F P.length W k 2 J<|G.lU (some 2) E (F+k*2) (Aq q) a2<|G.c call108 (Xs p q V) ?_;intro v1 u1 l1 H;obtain⟨L,K,T,O,h,g,t,m,rfl⟩:=H.opn;exact G.r (.agg #[.bool L,.slice K T O,.bool h,.slice g t m]) ⟨rfl,H⟩
def Amr (Z:Aah u lv P b)(L:Rc u v C N)(hP:P.length<=1000)(Y:(Ah P)[i]?=some e) :
 Fn0 prog 110 [lv,v,.int .i64 i] u fun r u'=>Ax u' r (Au C e):=by
 obtain⟨pa,pc,ca,cc,rfl,J,_⟩:=Z.val;obtain⟨b0,a0,n0,c0,V,U,a2,W,g1,g2,rfl,hc⟩:=Vc L;refine Fn0.o func110 ?_;rcases Q9 Y with ⟨rfl,rfl⟩|⟨i,p,rfl,t,rfl⟩
 ·refine G.eT' (0:Nat) 0 rfl<|G.c call109 Aca ?_;rintro v0 u0 O rfl;refine G.c call173 (Aap B7 (L.mono O)) ?_;intro v1 u1 l1 E;obtain⟨H,F,Q,I,h,g,n,m,rfl⟩:=E.opn;exact G.r (.agg #[.bool H,.slice F Q I,.bool h,.slice g n m]) ⟨rfl,E⟩
 have K:=(Ayu.1 t).1;obtain⟨R,T,rfl,X⟩:=Ac.at' J (j:=i) (e:=Aq p) (by simp[t]);refine G.eF (i+1:Nat) 0<|G.s (i+1:Nat) 1 i<|G.a R T P.length pc i 2 K<|G.lU (some 2) R (T+i*2) (Aq p) X<|G.c call109 Aca ?_;rintro v0 u0 O rfl;refine G.c call108 (Xs B7 p (L.mono O)) ?_;intro v1 u1 l1 E;obtain⟨H,F,Q,I,h,g,n,m,rfl⟩:=E.opn;exact G.r (.agg #[.bool H,.slice F Q I,.bool h,.slice g n m]) ⟨rfl,E⟩
end
section
variable {C:CF}{N d:Nat}{P:List Par}{b:Option Par->Rat}{q:Rat}{α:Type}
def Dn.lift (j:Nat)(h:Dn d N q):Dn (d+j) (N*12^j) q:=by
 obtain⟨k,e,g⟩:=h;refine⟨k*((12^j:Nat):Int),?_,?_⟩
 ·rw[A0v,Az2,<-e,A3a,A10];grind
 rw[A15];exact Az7 _ g
def Dn.to {d e N M:Nat}(h:Dn d N q)(j:d<=e)(g:N*12^(e-d)<=M):Dn e M q:=by
 have:=h.lift (e-d);rw[show d+(e-d)=e by omega]at this;exact this.mono g
structure QOK (b:Option Par->Rat)(C:CF):Prop where
 b:∀ e,Sz (b e) 1000
 c:∀ e f,Sz (Ar C e f) 1000
 r:∀ e,Sz (Au C e) 1000
 l:Sz (C.t (A2 B7 B7)) 1000
def Kr {α:Type}{f:α->Rat}{s:Nat}:∀ {l:List α},(∀ a∈l,Sz (f a) s)->Sz (Ao f l) (l.length*(s+1)+1)
 |[],_=>Ai1.mono mV
 |a::l,h=>by
  have e:=Gy (h a (A1c ..)) (Kr fun x g=>h x (Azq _ g));exact e.mono (by rw[A0q,Azt];omega)
def QOK.half (h:QOK b C)(e f:Option Par):Sz (b e*Ar C e f) 2000:=Di (h.b e) (h.c e f)
def QOK.term (h:QOK b C)(e f:Option Par):Sz (b e*Ar C e f*b f) 3000:=Di (h.half e f) (h.b f)
def QOK.rt (h:QOK b C)(e:Option Par):Sz (b e*Au C e) 2000:=Di (h.b e) (h.r e)
def P7 {l:List α}{f:α->Rat}{s k:Nat}(h:Sz (Ao f l) (l.length*(s+1)+1))(e:l.length<=k):Sz (Ao f l) (k*(s+1)+1):=h.mono (by have:=Az7 (s+1) e;omega)
def QOK.inner (h:QOK b C)(j:P.length<=60)(e:Option Par)(l:List (Option Par))(g:l.length<=61):Sz (Ao (fun f=>b e*Ar C e f*b f) l) 200000 :=
 (P7 (Kr fun f _=>h.term e f) g).mono oV
def QOK.outer (h:QOK b C)(g:P.length<=60)(l:List (Option Par))(j:l.length<=61):Sz (Ao (fun e=>Ao (fun f=>b e*Ar C e f*b f) (Ah P)) l) 20000000 :=
 (P7 (Kr fun e _=>h.inner g e (Ah P) (by rw[Bk];omega)) j).mono oV
def Da {l:List α}{i:Nat}{x:α}(h:l[i]?=some x):l.take (i+1)=l.take i++[x]:=by rw[Aze,h];rfl
def Axv {u:PH}{lv v:Value}(hl:Aah u lv P b)(hv:Rc u v C N)(hP:P.length<=60)(V:QOK b C) :
 Fn0 prog 107 [lv,v] u fun r u'=>Ax u' r (Ba9 b P C):=by
 obtain⟨pa,pc,ca,O,rfl,b9,es,hL,hF⟩:=hl.val;have ah:=Bk P;have ba:es.length=P.length+1:=by rw[hF.1,Ayt,ah]
 obtain⟨b0,a0,n0,c0,Y,X,a8,Z,g1,g2,rfl,hc⟩:=Vc hv;refine Fn0.o func107<|G.c call171 (Uz (z:=0) oV oV) ?_;intro v1 u1 l1 k1;rw[show ((0:Int):Rat)=0 by decide +kernel]at k1;obtain⟨sb,sa,sn,sc,H,F,K,I,rfl⟩:=k1.opn;refine G.l (ι:=Nat×(Bool×SlI)×(Bool×SlI)) (fun i=>[(2,.p 0 0),(3,.p 1 0),(4,.p 2 0),(5,.p 1001 0),(12,sV ca (P.length+1) O),(13,iV (P.length+1:Nat)),(14,iV i.1)])
  (fun i=>[(0,⟨110,[sV pa P.length pc,sV ca (P.length+1) O]⟩),(1,⟨123,[bV b0,sV a0 n0 c0,bV Y,sV X a8 Z,.v (.map (some g1)),.v (.map (some g2))]⟩),(2,⟨118,[bV false,sV none 0 0,bV false,sV none 0 0]⟩),(1001,⟨118,[bV i.2.1.1,sV i.2.1.2.1 i.2.1.2.2.1 i.2.1.2.2.2,bV i.2.2.1,sV i.2.2.2.1 i.2.2.2.2.1 i.2.2.2.2.2]⟩)])
  (fun i u' m'=>i.1<=P.length+1/\Ax u' (.agg #[.bool i.2.1.1,.slice i.2.1.2.1 i.2.1.2.2.1 i.2.1.2.2.2,.bool i.2.2.1,.slice i.2.2.2.1 i.2.2.2.2.1 i.2.2.2.2.2]) (Ao (fun e=>Ao (fun f=>b e*Ar C e f*b f) (Ah P)) ((Ah P).take i.1))/\m'=PH.mt) (fun i=>P.length+1-i.1) (0,(sb,sa,sn,sc),(H,F,K,I)) ⟨oV,k1,rfl⟩ ?_
 rintro J ⟨i,⟨sb,sa,sn,sc⟩,⟨H,F,K,I⟩⟩ hJ u2 m2 l2 ⟨hi,k2,rfl⟩;simp only at hi k2 hJ;have W:=l1.trans l2;by_cases ai:i<P.length+1
 ·refine G.lT i (P.length+1:Nat) ?_;obtain⟨e,T⟩:∃ e,(Ah P)[i]?=some e:=⟨_,Ayr oV⟩;have L:=V.outer hP ((Ah P).take i) (by rw[Ay1];omega);have g:Ao (fun e=>Ao (fun f=>b e*Ar C e f*b f) (Ah P)) ((Ah P).take (i+1))=Ao (fun e=>Ao (fun f=>b e*Ar C e f*b f) (Ah P)) ((Ah P).take i)+Ao (fun f=>b e*Ar C e f*b f) (Ah P):=by rw[Da T,Fs]
  obtain⟨x,hx,h⟩:=hF.2 i (b e) (by rw[Ayy,T];rfl);obtain⟨Q,R,rfl,ef⟩:=Ac.at' (hL.mono W) (j:=i) (e:=x) hx;have h:=h.mono W;obtain⟨xb,xa,xn,xc,aa,a9,ac,ab,rfl⟩:=h.opn;refine G.a Q R (P.length+1) O i 4 ai<|G.lU (some 4) Q (R+i*4) (.agg #[.bool xb,.slice xa xn xc,.bool aa,.slice a9 ac ab]) ef ?_;generalize hS:Ao (fun e=>Ao (fun f=>b e*Ar C e f*b f) (Ah P)) ((Ah P).take i)=S at k2 L g;have z0:S+0=S:=by grind
  refine G.l (ι:=Nat×(Bool×SlI)×(Bool×SlI)) (fun n=>[(2,.p 0 0),(3,.p 1 0),(4,.p 2 0),(5,.p 1001 0),(6,iV i),(7,.p 4003 0),(12,sV (some ⟨Q,R,none⟩) (P.length+1) O),(13,iV (P.length+1:Nat)),(14,iV i),(20,sV (some ⟨Q,R,none⟩) (P.length+1) O),(21,iV (P.length+1:Nat)),(22,iV n.1)])
   (fun n=>[(0,⟨110,[sV pa P.length pc,sV (some ⟨Q,R,none⟩) (P.length+1) O]⟩),(1,⟨123,[bV b0,sV a0 n0 c0,bV Y,sV X a8 Z,.v (.map (some g1)),.v (.map (some g2))]⟩),(2,⟨118,[bV false,sV none 0 0,bV false,sV none 0 0]⟩),(1001,⟨118,[bV n.2.1.1,sV n.2.1.2.1 n.2.1.2.2.1 n.2.1.2.2.2,bV n.2.2.1,sV n.2.2.2.1 n.2.2.2.2.1 n.2.2.2.2.2]⟩),(4003,⟨118,[bV xb,sV xa xn xc,bV aa,sV a9 ac ab]⟩)])
   (fun n u' m'=>n.1<=P.length+1/\Ax u' (.agg #[.bool n.2.1.1,.slice n.2.1.2.1 n.2.1.2.2.1 n.2.1.2.2.2,.bool n.2.2.1,.slice n.2.2.2.1 n.2.2.2.2.1 n.2.2.2.2.2]) (S+Ao (fun f=>b e*Ar C e f*b f) ((Ah P).take n.1))/\m'=PH.mt) (fun n=>P.length+1-n.1) (0,(sb,sa,sn,sc),(H,F,K,I)) ⟨oV,by show Ax _ _ (S+0);rw[z0];exact k2,rfl⟩ ?_
  rintro J2 ⟨n,⟨tb,ta,tn,tc⟩,⟨am,al,ao,an⟩⟩ a1 u3 m3 l3 ⟨hn,k3,rfl⟩;simp only at hn k3 a1;have E:=W.trans l3;by_cases aj:n<P.length+1
  ·refine G.lT n (P.length+1:Nat) ?_;obtain⟨f,U⟩:∃ f,(Ah P)[n]?=some f:=⟨_,Ayr oV⟩;have a2:=V.inner hP e ((Ah P).take n) (by rw[Ay1];omega);have t:S+Ao (fun f=>b e*Ar C e f*b f) ((Ah P).take (n+1))=S+Ao (fun f=>b e*Ar C e f*b f) ((Ah P).take n)+b e*Ar C e f*b f:=by rw[Da U,Fs];grind
   obtain⟨y,hy,m⟩:=hF.2 n (b f) (by rw[Ayy,U];rfl);obtain⟨f2,o2,e2,ag⟩:=Ac.at' (hL.mono E) (j:=n) (e:=y) hy;cases e2;have m:=m.mono E;obtain⟨yb,ya,yn,yc,aq,ap,au,ar,rfl⟩:=m.opn;refine G.a Q R (P.length+1) O n 4 aj<|G.lU (some 4) Q (R+n*4) (.agg #[.bool yb,.slice ya yn yc,.bool aq,.slice ap au ar]) ag<|G.c call149 (V4 (hl.mono E) (hv.mono E) oV T U) ?_;intro v4 u4 l4 k4;obtain⟨b4,a4,n4,c4,ay,av,bb,b2,rfl⟩:=k4.opn;refine G.c call55 (Ik ((h.mono l3).mono l4) k4 ((V.b e).mono oV) ((V.c e f).mono oV)) ?_;intro v5 u5 l5 k5;obtain⟨b5,a5,n5,c5,az,aw,bd,b3,rfl⟩:=k5.opn;refine G.c call55 (Ik k5 (m.mono (l4.trans l5)) ((V.half e f).mono oV) ((V.b f).mono oV)) ?_;intro v6 u6 l6 k6;obtain⟨b6,a6,n6,c6,b1,ax,be,b8,rfl⟩:=k6.opn;have a3:=(l4.trans l5).trans l6;refine G.c call53 (If (k3.mono a3) k6 ((Gy L a2).mono oV) ((V.term e f).mono oV)) ?_;intro v7 u7 l7 k7;rw[<-t]at k7;obtain⟨b7,a7,n7,c7,ae,ad,ak,af,rfl⟩:=k7.opn;exact G.i n<|G.b (a1 (n+1,(b7,a7,n7,c7),(ae,ad,ak,af)) _ _ _ cV (l3.trans (a3.trans l7)) ⟨dV,k7,rfl⟩ dV)
  obtain rfl:n=P.length+1:=oV;refine G.lF (P.length+1:Nat) (P.length+1:Nat) ?_;rw[Ay6 oV,<-g]at k3;exact G.i i<|G.b (hJ (i+1,(tb,ta,tn,tc),(am,al,ao,an)) _ _ _ cV (l2.trans l3) ⟨dV,k3,rfl⟩ dV)
 obtain rfl:i=P.length+1:=oV;refine G.lF (P.length+1:Nat) (P.length+1:Nat) ?_;rw[Ay6 oV]at k2;exact G.r (.agg #[.bool sb,.slice sa sn sc,.bool H,.slice F K I]) ⟨rfl,k2⟩
end
section
variable {C:CF}{P:List Par}{b:Option Par->Rat}
def QOK.bs (h:QOK b C)(l:List (Option Par))(g:l.length<=61):Sz (Ao (fun e=>b e*Ar C none e) l) 200000 :=
 (P7 (Kr fun e _=>Di (h.b e) (h.c none e)) g).mono oV
def QOK.rs (h:QOK b C)(l:List (Option Par))(g:l.length<=61):Sz (Ao (fun e=>b e*Au C e) l) 200000 :=
 (P7 (Kr fun e _=>h.rt e) g).mono oV
def Api {q:Rat}{k:Nat}(h:Sz q k):Sz (2*q) (2*k+1):=by
 rw[show 2*q=q+q by grind];exact (Gy h h).mono oV
def QOK.nm (h:QOK b C)(e:P.length<=60):Sz (Ba9 b P C) 20000000 :=
 h.outer e (Ah P) (by rw[Bk];omega)
def sq0 {u:PH}{lv v:Value}{N:Nat}(hl:Aah u lv P b)(X:Rc u v C N)(hP:P.length<=60)(H:QOK b C) :
 Fn0 prog 51 [lv,v] u fun r u'=>Ax u' r (sqC b P C):=by
 obtain⟨pa,pc,ca,cc,rfl,bb,es,hL,hF⟩:=hl.val;have ab:=Bk P;have bd:es.length=P.length+1:=by rw[hF.1,Ayt,ab]
 obtain⟨b0,a0,n0,c0,a3,Z,ah,a6,g1,g2,rfl,hc⟩:=Vc X;have n:=H.l;have U:=H.nm hP;refine Fn0.o func51<|G.c call107 (Axv hl X hP H) ?_;intro v1 u1 l1 k1;obtain⟨b1,a1,n1,c1,au,an,be,b2,rfl⟩:=k1.opn;refine G.c call109 Aca ?_;rintro v2 u2 l2 rfl;refine G.c call109 Aca ?_;rintro v3 u3 l3 rfl;have V:=(l1.trans l2).trans l3;refine G.c call108 (Xs B7 B7 (X.mono V)) ?_;intro v4 u4 l4 k4;obtain⟨b4,a4,n4,c4,av,ao,bf,b3,rfl⟩:=k4.opn;refine G.c call53 (If (k1.mono ((l2.trans l3).trans l4)) k4 (U.mono oV) (n.mono oV)) ?_;intro v5 u5 l5 k5;have ag:=(V.trans l4).trans l5;have hA:Sz (Ba9 b P C+C.t (A2 B7 B7)) 20001001:=Gy U n;have m:Ba9 b P C+C.t (A2 B7 B7)-2*Ao (fun e=>b e*Au C e) (Ah P)=sqC b P C:=rfl;generalize Ba9 b P C+C.t (A2 B7 B7)=A at k5 hA m;obtain⟨sb,sa,sn,sc,O,L,R,Q,rfl⟩:=k5.opn;have z1:A-2*0=A:=by grind
 refine G.l (ι:=Nat×(Bool×SlI)×(Bool×SlI)) (fun i=>[(2,.p 0 0),(3,.p 1 0),(4,.p 2 0),(5,.p 1008 0),(18,sV ca (P.length+1) cc),(19,iV (P.length+1:Nat)),(20,iV i.1)])
  (fun i=>[(0,⟨110,[sV pa P.length pc,sV ca (P.length+1) cc]⟩),(1,⟨123,[bV b0,sV a0 n0 c0,bV a3,sV Z ah a6,.v (.map (some g1)),.v (.map (some g2))]⟩),(2,⟨118,[bV false,sV none 0 0,bV false,sV none 0 0]⟩),(1008,⟨118,[bV i.2.1.1,sV i.2.1.2.1 i.2.1.2.2.1 i.2.1.2.2.2,bV i.2.2.1,sV i.2.2.2.1 i.2.2.2.2.1 i.2.2.2.2.2]⟩)])
  (fun i u' m'=>i.1<=P.length+1/\Ax u' (.agg #[.bool i.2.1.1,.slice i.2.1.2.1 i.2.1.2.2.1 i.2.1.2.2.2,.bool i.2.2.1,.slice i.2.2.2.1 i.2.2.2.2.1 i.2.2.2.2.2]) (A-2*Ao (fun e=>b e*Au C e) ((Ah P).take i.1))/\m'=PH.mt) (fun i=>P.length+1-i.1) (0,(sb,sa,sn,sc),(O,L,R,Q)) ⟨oV,by show Ax _ _ (A-2*0);rw[z1];exact k5,rfl⟩ ?_
 rintro J ⟨i,⟨sb,sa,sn,sc⟩,⟨O,L,R,Q⟩⟩ hJ u6 m6 l6 ⟨hi,Y,rfl⟩;simp only at hi Y hJ;have h:=ag.trans l6;by_cases ad:i<P.length+1
 ·refine G.lT i (P.length+1:Nat) ?_;obtain⟨e,E⟩:∃ e,(Ah P)[i]?=some e:=⟨_,Ayr oV⟩;have ae:=H.rs ((Ah P).take i) (by rw[Ay1];omega);have F:=H.rt e;have T:=Uh hA (Api ae);have ac:=Uh T F;have I:A-2*Ao (fun e=>b e*Au C e) ((Ah P).take (i+1))=A-2*Ao (fun e=>b e*Au C e) ((Ah P).take i)-b e*Au C e-b e*Au C e:=by rw[Da E,Fs];grind
  obtain⟨x,hx,g⟩:=hF.2 i (b e) (by rw[Ayy,E];rfl);obtain⟨fb,fo,rfl,ef⟩:=Ac.at' (hL.mono h) (j:=i) (e:=x) hx;have g:=g.mono h;obtain⟨xb,xa,xn,xc,ak,aj,am,al,rfl⟩:=g.opn;refine G.a fb fo (P.length+1) cc i 4 ad<|G.lU (some 4) fb (fo+i*4) (.agg #[.bool xb,.slice xa xn xc,.bool ak,.slice aj am al]) ef<|G.c call110 (Amr (hl.mono h) (X.mono h) oV E) ?_;intro v7 u7 l7 k7;obtain⟨b7,a7,n7,c7,aw,ap,bg,b5,rfl⟩:=k7.opn;refine G.c call55 (Ik (g.mono l7) k7 ((H.b e).mono oV) ((H.r e).mono oV)) ?_;intro v8 u8 l8 k8;obtain⟨b8,a8,n8,c8,ay,aq,bh,b6,rfl⟩:=k8.opn;refine G.c call111 (Aet (Y.mono (l7.trans l8)) k8 (T.mono oV) (F.mono oV)) ?_;intro v9 u9 l9 k9;obtain⟨b9,a9,n9,c9,az,ar,bi,ba,rfl⟩:=k9.opn;refine G.c call111 (Aet k9 (k8.mono l9) (ac.mono oV) (F.mono oV)) ?_;intro bk bj af K;rw[<-I]at K;obtain⟨bx,ax,ai,cx,a5,a2,W,aa,rfl⟩:=K.opn;exact G.i i<|G.b (hJ (i+1,(bx,ax,ai,cx),(a5,a2,W,aa)) _ _ _ cV ((((l6.trans l7).trans l8).trans l9).trans af) ⟨dV,K,rfl⟩ dV)
 obtain rfl:i=P.length+1:=oV;refine G.lF (P.length+1:Nat) (P.length+1:Nat) ?_;rw[Ay6 oV,m]at Y;exact G.r (.agg #[.bool sb,.slice sa sn sc,.bool O,.slice L R Q]) ⟨rfl,Y⟩
end
section
open Go.RowKit Go.MapKept Go.Shelf Go.Sort
variable {L:List Par}
def R5 (L:List Par):A6 (L.map Aq)=L.flatMap B8:=by
 unfold A6;rw[List.flatMap_map];rfl
def Ft (L:List Par):(L.flatMap B8).length=L.length*2:=by
 induction L with
 |nil=>rfl
 |cons x L ih=>rw[A40,Ay3,ih,Mk,A0q,Azt];omega
def Abv {L e:List Par}(m:e.length=L.length)(rest:List Value):putCells id 0 (flatK B8 2 e.toArray) (L.flatMap B8++rest).toArray=(e.flatMap B8++rest).toArray:=by
 have h:=Ft L;have j:=Ft e;have n:(flatK B8 2 e.toArray).size=e.length*2:=by rw[size_flatK];simp
 apply A85;intro t;unfold putCells;rw[Array.getElem?_mapIdx,A06,A06,n];by_cases g:t<e.length*2
 ·rw[Azi oV,Azi oV,Pr Mk e t g];have:(L.flatMap B8)[t]?=some (L.flatMap B8)[t]:=Ayr oV;rw[this];simp only[A1n,Azh,A0h,true_and,if_pos g,id,A43];rw[get_flatK B8 2 _ t (by simpa using g)]
 rw[Azy oV,Azy oV,h,j,m];cases hr:rest[t-L.length*2]? with
 |none=>rfl
 |some x =>
  simp only[A1n,Azh,A0h,true_and];rw[if_neg oV]
def Acn (L:List Par):Ba 2 (L.map Aq):=by
 intro e h;obtain⟨x,_,rfl⟩:=Ayx.1 h;exact⟨rfl,fun y g=>by simp[Aq,Value.cells]at g;rcases g with rfl|rfl<;>rfl⟩
def Am5 {u m0 m:PH}{v:Value}(hA:Af m0 m v 63 2 (L.map Aq))(a4:L.Nodup)(hl:L.length<=1000000) :
 Ag prog 247 [v,.func (.func 219) #[] #[]] u m fun r u' m'=>r=.tuple #[]/\Af m0 m' v 63 2 ((Ew Bf L).map Aq):=by
 have hp:=H5 (c:=Bf) L;have K:(Ew Bf L).length=L.length:=hp.length_eq;intro w O;obtain⟨a5,h⟩:=hA;rcases h with ⟨rfl,he,rfl⟩|⟨g,cap,rest,a0,rfl,rfl,P,J,N⟩
 ·have hL:L = []:=by simpa using he
  subst hL;refine (AnyF.slices_SortFunc_none Tryz.sortPar none 0 _ w).mono ?_;rintro e w' ⟨rfl,rfl⟩;exact⟨_,u,m,rfl,O,⟨Ay2 _,fun _ _ _=>rfl,fun _ _=>rfl,fun _ _ h=>h,⟨rfl,rfl⟩,fun f=>f.elim⟩,rfl,by
   have e:Ew Bf ([]:List Par) = []:=A7y.1 K;rw[e];exact Af.nil _ _ _⟩
 rw[Ayt]at P⊢;rw[R5]at J O;have T:w.heap[g]?=some (.cells (L.flatMap B8++rest).toArray 63 (0,0)):=O.pm g _ (Ab _ _ _);have hH:HoldsK B8 2 w g 0 L.toArray:=Aku (enc:=B8) (k:=2) Mk T (by
  show (L.flatMap B8++rest).take (L.length*2)=_;rw[A4z (by rw[Ft];omega),Ay6 (by rw[Ft];omega)])
 have X:g<w.heap.size:=A3 T;have I:=AnyQ.slices_SortFunc_total Tryz.sortPar 2 (fun w=>kV) (fun w=>kV) B8 (fun _=>rfl) (fun x v hv=>by simp at hv;rcases hv with rfl|rfl<;>rfl) Bf Dl.swo 219 #[] g 0 cap L.toArray w call219 (Afy g 0 _ w) hH X gV Dl.tot
 change Calls prog 247 _ _ _ at I;simp only[A5z]at I;refine Calls.mono I ?_;rintro e w' ⟨rfl,nn,os,rfl⟩;change Aeh _ _ _ (sortWorldK B8 2 w g 0 nn (Ew Bf L).toArray os);obtain⟨w',V⟩:∃ w',w'=sortWorldK B8 2 w g 0 nn (Ew Bf L).toArray os:=⟨_,rfl⟩;have E:w'.heap=w.heap.modify g (onCells (putCells id 0 (flatK B8 2 (Ew Bf L).toArray)))++os:=by rw[V];rfl
 have a1:w'.os=w.os/\w'.output=w.output:=by rw[V];exact⟨rfl,rfl⟩
 rw[<-V];have a2:w.heap.size<=w'.heap.size:=by rw[E,Array.size_append,A7i];omega
 have H:∀ k,k<w.heap.size->k≠g->w'.heap[k]?=w.heap[k]?:=fun k n U=>by
  rw[E,A31 (by rw[A7i];exact n),A6k,if_neg (fun e=>U e.symm)]
 have Q:w'.heap[g]?=some (.cells ((Ew Bf L).flatMap B8++rest).toArray 63 (0,0)):=by
  rw[E,A31 (by rw[A7i];exact X),A6k,if_pos rfl,T];show some (Obj.cells (putCells id 0 _ _) _ _)=_;rw[Abv K]
 have a3:u g=none:=(O.ap g).resolve_right (by rw[Ab];simp);have R:=Acn (Ew Bf L);refine⟨_,fun k=>if k<w.heap.size then u k else w'.heap[k]?,m0.upd g (.cells (A6 ((Ew Bf L).map Aq)++rest).toArray 63 (0,0)),rfl,⟨?_,?_,?_,?_⟩,⟨a2,?_,?_,?_,a1,fun f=>f.elim⟩,rfl,R,.inr ⟨g,cap,rest,a0,rfl,by rw[Ayt,K],by rw[Ayt,K];exact P,?_,N⟩⟩
 ·intro k o n;simp only at n;split at n
  ·rename_i F;have U:k≠g:=fun e=>by subst e;rw[a3]at n;cases n
   rw[H k F U];exact O.pu k o n
  exact n
 ·intro k o n;by_cases e:k=g
  ·subst e;rw[Ab]at n;cases n;rw[Q,R5]
  rw[Ad _ _ e]at n;have:=O.pm k o (by rw[Ad _ _ e];exact n);rw[H k (A3 this) e];exact this
 ·intro k;simp only;by_cases F:k<w.heap.size
  ·rw[if_pos F];rcases O.ap k with h|h
   ·exact .inl h
   by_cases e:k=g
   ·subst e;rw[Ab]at h;cases h
   right;rw[Ad _ _ e]at h⊢;exact h
  right;have e:k≠g:=fun e=>oV;rw[Ad _ _ e];have:=O.pm.none (g:=k) (by show w.heap.size<=k;omega);rw[Ad _ _ e]at this;exact this
 ·intro k cs t fr j z n Z;simp only;by_cases F:k<w.heap.size
  ·rw[if_pos F];by_cases e:k=g
   ·subst e;rw[Q]at n;cases n;exfalso;have Y:Value.int .u64 z∈(Ew Bf L).flatMap B8++rest:=by
     rw[A06]at Z;exact Ay9 Z
    have W:∀ x∈(Ew Bf L).flatMap B8++rest,Az x=true:=fun x hx=>by
     rcases Ay5.1 hx with h|h
     ·rw[<-R5]at h;exact Fp R x h
     exact N x h
    have:=W _ Y;cases this
   rw[H k F e]at n;exact O.cl k cs t fr j z n Z
  rw[if_neg F];exact n
 ·intro k n C;refine H k n fun e=>?_;subst e;simp only at C;rw[Ab]at C;cases C
 ·intro k n;simp only;exact if_pos n
 ·intro k n C;by_cases e:k=g
  ·subst e;simp only at C;rw[Ab]at C;cases C
  simp only at C;rw[Ad _ _ e]at C⊢;exact C
 rw[R5,Ay3,Ft,K];rw[Ay3,Ft]at J;exact J
end
section
variable {F:List Am}{R:List Bu}{T:List (List UInt8×Nat)}{lab:Int}{n:Nat}{u:PH}{v:Value}
def Ac1 (F:List Am)(lab:Int)(p:Par):Prop:=(p.1 = -1/\0<=lab/\p.2 = [])\/(∃ (k:Nat) (f:Am),p.1=(k:Int)/\F[k]?=some f/\(f.2.1=2\/p.2 = []))
def Anu {p:Par}(P:G8 u v T R F lab)(ok:Bt u T R F lab)(hp:Ac1 F lab p) :
 Fn0 prog 245 [v,Aq p] u fun r _=>r=.bool true:=by
 obtain⟨Y,xc,Z,xd,xe,W,rfl,O,N,E⟩:=P;have Q:=ok.f2;refine Fn0.o func245 ?_;rcases hp with ⟨m,C,h⟩|⟨k,f,m,I,h⟩
 ·exact G.eT' p.1 (-1) m<|G.hT' lab 0 C<|G.q p.2 [] h<|G.r (.bool true) ⟨rfl,rfl⟩
 obtain⟨X,V⟩:=p;simp only at m h;subst m;have U:=(Ayu.1 I).1;obtain⟨t,H,rfl,J⟩:=Ac.at' E (j:=k) (e:=Ch f) (by simp[I]);obtain⟨K,g,L⟩:=f;simp only at h;refine G.eF k (-1)<|G.hF k F.length<|G.a t H F.length W k 3 U<|G.f 105 t (H+k*3) 1 1<|G.lU none t (H+k*3+1) (.int .i64 g) (J.fld (j:=1) (xs:=#[.int .i64 K,.int .i64 g,.int .i64 L]) rfl rfl) ?_;by_cases C:g=2
 ·exact G.eT g 2<|G.r (.bool true) ⟨rfl,rfl⟩
 exact G.eF g 2<|G.q V [] (h.resolve_left C)<|G.r (.bool true) ⟨rfl,rfl⟩
def Ath {u m:PH}{b:Nat}{x:Par×Rat}(C:ElP m b 0 v)(g:G8 u v T R F lab)(ok:Bt u T R F lab)(hp:Ac1 F lab x.1) :
 FnK prog 244 [As x,.pointer (some ⟨b,0,none⟩)] u m fun v _=>v=.bool false:=by
 have e:=Anu g ok hp;obtain⟨E,I,H,J,K,L,rfl,t,j,h⟩:=g;refine FnK.of func244 kV kV<|G.lM (some 4) b 0 (.agg #[.slice E T.length I,.slice H R.length J,.slice K F.length L,.int .i64 lab]) C<|G.c call245 e ?_;rintro P O N rfl;exact G.r (.bool false) ⟨rfl,rfl⟩
def Anc {u m:PH}{v cap:Value}{T:List (Par×Rat)}{fid:Nat}(h:Ac u v 3 (T.map As))(V:T.length<=1000000)
 (g:∀ args w,(callFunc fid args).run prog w=.ok (.enter fid args) w) (O:∀ p∈T,∀ H,PH.le u H->FnK prog fid [As p,cap] H m fun v _=>v=.bool false) :
 FnK prog 218 [v,.func (.func fid) #[] #[cap]] u m fun U _=>U=.int .i64 (-1):=by
 obtain⟨a,c,rfl⟩:=h.opn;rw[Ayt]at h⊢;refine FnK.of func218 kV kV<|G.l (ι:=Nat) (fun i=>[(0,sV a T.length c),(1,.v (.func (.func fid) #[] #[cap])),(7,iV T.length),(8,iV i)]) (fun _=>[])
  (fun i H P=>i<=T.length/\P=m) (fun i=>T.length-i) 0 ⟨oV,rfl⟩ ?_
 rintro J i N Q W E ⟨hi,rfl⟩;by_cases t:i<T.length
 ·refine G.lT i T.length ?_;have C:T[i]?=some T[i]:=Ayr t;obtain⟨I,K,rfl,L⟩:=Ac.at' (h.mono E) (j:=i) (e:=As T[i]) (by simp[C]);refine G.a I K T.length c i 3 oV<|G.lU (some 3) I (K+i*3) (As T[i]) L<|G.callK fid [As T[i],cap] kV g (O T[i] (Ay8 t) Q E) ?_;rintro Y X l2 rfl;exact G.i i<|G.b (N (i+1) _ _ _ cV (E.trans l2) ⟨oV,rfl⟩ oV)
 obtain rfl:i=T.length:=oV;exact G.lF T.length T.length<|G.r (.int .i64 (-1)) ⟨rfl,rfl⟩
def Ad4 {u m:PH}{v cap:Value}{T:List (Par×Rat)}{fid:Nat}(h:Ac u v 3 (T.map As))(t:T.length<=1000000)
 (e:∀ args w,(callFunc fid args).run prog w=.ok (.enter fid args) w) (j:∀ p∈T,∀ g,PH.le u g->FnK prog fid [As p,cap] g m fun v _=>v=.bool false) :
 FnK prog 162 [v,.func (.func fid) #[] #[cap]] u m fun C _=>C=.bool false:=by
 obtain⟨a,c,rfl⟩:=h.opn;refine FnK.of func162 kV kV<|G.callK _ _ kV call218 (Anc h t e j) ?_;rintro I H E rfl;exact G.hF (-1) 0<|G.r (.bool false) ⟨rfl,rfl⟩
def Do (F:List Am)(n:Nat):List Nat:=(List.range n).filter fun i=>(F.getD i (0,0,0)).2.1==1
def Al0 {f:Am}(g:F[n]?=some f):Do F (n+1)=if f.2.1=1 then Do F n++[n] else Do F n:=by
 unfold Do;rw[A4r,A7e];have e:(F.getD n (0,0,0))=f:=by simp[Ays,g]
 by_cases h:f.2.1=1
 ·rw[if_pos h,A5x (by rw[e];simp[h])];rfl
 rw[if_neg h,A5y (by rw[e];simp[h])];simp
def Ad1 (F:List Am)(n:Nat):(Do F n).length<=n:=by
 unfold Do;exact Ayv (A47 _ _) mV
def Xf {n i:Nat}:i∈Do F n↔i<n/\(F.getD i (0,0,0)).2.1=1:=by
 unfold Do;simp[A2v]
def Age (F:List Am)(n:Nat):(Do F n).Nodup:=List.nodup_range.filter _
def Ae7 (W:G8 u v T R F lab)(ok:Bt u T R F lab) :
 Fn0 prog 246 [v] u fun r Y=>Ac Y r 1 (Ai (Do F F.length)):=by
 have L:=Acb W ok;obtain⟨xa,xc,xb,xd,xe,Z,rfl,a1,a0,I⟩:=W;have a2:=ok.f2;refine Fn0.o func246<|G.c call89 L ?_;rintro v1 u1 l1 rfl;refine G.nF 0 0<|G.l (ι:=Nat×(Option Addr×Nat)) (fun i=>[(3,sV i.2.1 (Do F i.1).length i.2.2),(10,sV xe F.length Z),(11,iV F.length),(12,iV i.1)]) (fun _=>[])
  (fun i Y m'=>i.1<=F.length/\Af PH.mt m' (.slice i.2.1 (Do F i.1).length i.2.2) 3 1 (Ai (Do F i.1))) (fun i=>F.length-i.1) (0,(none,0)) ⟨oV,Af.nil _ _ _⟩ ?_
 rintro J ⟨i,⟨O,P⟩⟩ K u2 m2 l2 ⟨hi,m⟩;simp only at hi m K;have N:=l1.trans l2;have a3:=Ad1 F i;by_cases C:i<F.length
 ·refine G.lT i F.length ?_;obtain⟨f,t⟩:∃ f,F[i]?=some f:=⟨_,Ayr C⟩;have E:=Al0 t;obtain⟨Q,U,rfl,ef⟩:=Ac.at' (I.mono N) (j:=i) (e:=Ch f) (by simp[t]);obtain⟨p1,H,p3⟩:=f;simp only at E;refine G.a Q U F.length Z i 3 C<|G.lU (some 3) Q (U+i*3) (.agg #[.int .i64 p1,.int .i64 H,.int .i64 p3]) ef ?_;by_cases V:H=1
  ·rw[if_pos V]at E;refine G.eT H 1<|G.buildU 3 1 8 (.int .i64 0) (Ai [i]) kV (A8 [i]) rfl oV (by simp[Ai]) (by simp[Ai]) ?_;intro g3 u3 X e3;refine G.append 3 1 8 (.int .i64 0) PH.mt (Ai (Do F i)) (Ai [i]) (.slice O (Do F i).length P) g3 0 1 1 kV rfl rfl oV m e3 (A8 [i]) rfl oV (by simp[Ai];omega) (by simp[Ai];omega) ?_;intro v4 m4 h;have e4:Ai (Do F i)++Ai [i]=Ai (Do F (i+1)):=by rw[E];simp[Ai]
   rw[e4]at h;obtain⟨a4,c4,rfl⟩:=h.shape;have e5:(Ai (Do F (i+1))).length=(Do F (i+1)).length:=by simp[Ai]
   rw[e5]at h⊢;exact G.i i<|G.b (K (i+1,(a4,c4)) _ _ _ cV (l2.trans X) ⟨dV,h⟩ dV)
  rw[if_neg V]at E;refine G.eF H 1<|G.i i ?_;rw[<-E]at m⊢;exact G.b (K (i+1,(O,P)) _ _ _ cV l2 ⟨dV,m⟩ dV)
 obtain rfl:i=F.length:=oV;refine G.lF F.length F.length<|G.give _ _ _ kV m (fun g=>.inl rfl) ?_;intro u3 X hL;exact G.r (.slice O (Do F F.length).length P) ⟨rfl,hL⟩
end
section
open Go.RowKit Go.MapKept Go.Sort
variable {A:List (Par×Rat)}{C:CF}{F:List Am}
def Pj (F:List Am)(p:Par):Bool:=decide (0<=p.1)&&(F.getD p.1.toNat (0,0,0)).2.1==2
def Ir (F:List Am)(A:List (Par×Rat))(n:Nat):List Par:=((A.take n).map (·.1)).filter (Pj F)
def Ak3 {n:Nat}{x:Par×Rat}(h:A[n]?=some x):Ir F A (n+1)=if Pj F x.1=true then Ir F A n++[x.1] else Ir F A n:=by
 unfold Ir;have e:A.take (n+1)=A.take n++[x]:=by rw[Aze,h];rfl
 rw[e,Aza,A7e];by_cases g:Pj F x.1=true
 ·rw[if_pos g,Azu,A5x g];rfl
 rw[if_neg g,Azu,A5y g];simp
def An7 (F:List Am)(A:List (Par×Rat))(n:Nat):(Ir F A n).length<=A.length:=by
 unfold Ir;refine Ayv (A47 _ _) ?_;rw[Ayt,Ay1];omega
def Ly (i:Nat):Par:=((i:Int),[])
def Jf (F:List Am):List Par:=(Do F F.length).map Ly
def Ht (p:Par):Ba 2 [Aq p]:=Acn [p]
def Aep (n:(A.map (·.1)).Nodup):(Jf F++Ir F A A.length).Nodup:=by
 refine A1h.2 ⟨?_,?_,?_⟩
 ·unfold Jf;refine List.Pairwise.map _ (fun a b g e=>?_) (Age F F.length);unfold Ly at e;simp only[Az0,and_true]at e;exact g oV
 ·unfold Ir;rw[Azj];exact n.filter _
 intro a j b m e;subst e;unfold Jf at j;obtain⟨i,hi,rfl⟩:=Ayx.1 j;unfold Ir at m;have h:=(A2v.1 m).2;unfold Pj Ly at h;simp only[Azb,beq_iff_eq,decide_eq_true_eq,A0y]at h;have t:=(Xf.1 hi).2;omega
def Akl (n:Can Bf C.s A){p:Par}:p∈Jf F++Ir F A A.length↔(∃ (i:Nat) (f:Am),p=Ly i/\F[i]?=some f/\f.2.1=1)\/(C.s p≠0/\∃ (i:Nat) (f:Am),p.1=(i:Int)/\F[i]?=some f/\f.2.1=2):=by
 have m:p∈A.map (·.1)↔C.s p≠0:=by
  constructor
  ·intro h;obtain⟨x,u,rfl⟩:=Ayx.1 h;obtain⟨g,e⟩:=n.val x u;rw[<-g];exact e
  intro h;exact A2e fun t=>h (n.out p t)
 rw[Ay5];refine or_congr ?_ ?_
 ·unfold Jf;rw[Ayx];constructor
  ·rintro⟨i,hi,rfl⟩;obtain⟨g,e⟩:=Xf.1 hi;refine⟨i,F[i],rfl,Ayr g,?_⟩;rw[Ays,Ayr g,A07]at e;exact e
  rintro⟨i,f,rfl,hf,g⟩;refine⟨i,Xf.2 ⟨(Ayu.1 hf).1,?_⟩,rfl⟩;rw[Ays,hf,A07];exact g
 unfold Ir;rw[Azj,A2v,m];refine and_congr Iff.rfl ?_;unfold Pj;simp only[Azb,beq_iff_eq,decide_eq_true_eq];constructor
 ·rintro⟨g,e⟩;have j:p.1.toNat<F.length:=by
   rcases Az8 p.1.toNat F.length with h|h
   ·exact h
   rw[Ays,Azo h]at e;simp at e
  rw[Ays,Ayr j,A07]at e;exact⟨p.1.toNat,F[p.1.toNat],oV,Ayr j,e⟩
 rintro⟨i,f,g,hf,e⟩;refine⟨oV,?_⟩;rw[g,A0y,Ays,hf,A07];exact e
abbrev Iy (F:List Am)(C:CF)(L:List Par):Prop :=
 Ez Bf L/\∀ p,p∈L↔(∃ (i:Nat) (f:Am),p=Ly i/\F[i]?=some f/\f.2.1=1)\/(C.s p≠0/\∃ (i:Nat) (f:Am),p.1=(i:Int)/\F[i]?=some f/\f.2.1=2)
def Iy.eq {L e:List Par}(h:Iy F C L)(g:Iy F C e):L=e :=
 Ads Dl h.1 g.1 fun p=>(h.2 p).trans (g.2 p).symm
def Axb (u:PH)(r:Value)(F:List Am)(C:CF):Prop :=
 (r=.tuple #[.slice none 0 0,.int .i64 3]/\∃ L,24<L.length/\Iy F C L)\/∃ (ps:Value) (L:List Par),r=.tuple #[ps,.int .i64 0]/\Ac u ps 2 (L.map Aq)/\L.length<=24/\Iy F C L
def Agm {u:PH}{v w:Value}{T:List (List UInt8×Nat)}{R:List Bu}{lab:Int}{K:Nat}(hX:G8 u v T R F lab)(ok:Bt u T R F lab)(hC:Nu u w C K)(sC:CFS C)(vC:CFV C)(hK:K<=100000)(hb:∀ p,C.s p≠0->Ac1 F lab p) :
 Fn0 prog 205 [v,w] u fun r u'=>Axb u' r F C:=by
 have aj:=fun (u':PH) (l:PH.le u u')=>Acb (hX.mono l) (ok.mono l);have ao:=fun (u':PH) (l:PH.le u u')=>Au3 (hC.mono l) sC vC oV;obtain⟨X,Z,Y,xd,I,E,rfl,au,ar,ah⟩:=id hX;obtain⟨A,Q,a1,c1,a2,c2,rfl,hA,hQ,cA,cQ,kA,kQ⟩:=hC;have ax:=ok.f2;refine Fn0.o func205<|G.c call89 (aj u (PH.le_refl _)) ?_;rintro v1 u1 l1 rfl;refine G.nF 0 0<|G.c call243 (ao u1 l1) ?_;rintro v2 u2 l2 rfl;have V:=l1.trans l2;refine G.pub 0 30 [.slice X T.length Z,.slice Y R.length xd,.slice I F.length E,.int .i64 lab] kV kV ?_;intro b av aw;have a4:∀ (m':PH),m' b=some (.cells [Value.slice X T.length Z,.slice Y R.length xd,.slice I F.length E,.int .i64 lab].toArray 30 (0,0))->ElP m' b 0 (.agg #[.slice X T.length Z,.slice Y R.length xd,.slice I F.length E,.int .i64 lab]):=fun m' h=>Qe (xs:=[.slice X T.length Z,.slice Y R.length xd,.slice I F.length E,.int .i64 lab]) h rfl;obtain⟨H,ad⟩:∃ H:PH,H=PH.mt.upd b (.cells [Value.slice X T.length Z,.slice Y R.length xd,.slice I F.length E,.int .i64 lab].toArray 30 (0,0)):=⟨_,rfl⟩;have t:H b=some (.cells [Value.slice X T.length Z,.slice Y R.length xd,.slice I F.length E,.int .i64 lab].toArray 30 (0,0)):=by rw[ad];exact Ab _ _ _
 rw[<-ad];refine G.callK _ _ kV call162 (Ad4 (cap:=.pointer (some ⟨b,0,none⟩)) (hA.mono V) oV call244 fun x hx u' l'=>Ath (a4 H t) (hX.mono (V.trans l')) (ok.mono (V.trans l')) (hb x.1 (by obtain⟨q1,q2⟩:=cA.val x hx;rw[<-q1];exact q2))) ?_;rintro v3 u3 l3 rfl;have aa:=V.trans l3;refine G.lM (some 4) b 0 (.agg #[.slice X T.length Z,.slice Y R.length xd,.slice I F.length E,.int .i64 lab]) (a4 H t)<|G.c call246 (Ae7 (hX.mono aa) (ok.mono aa)) ?_;intro v4 u4 l4 hN;obtain⟨na,nc,rfl⟩:=hN.opn;have am:(Ai (Do F F.length)).length=(Do F F.length).length:=by simp[Ai]
 rw[am]at hN⊢;have az:=Ad1 F F.length;have ap:=aa.trans l4;refine G.l (ι:=Nat×(Option Addr×Nat)) (fun i=>[(2,.v (.pointer (some ⟨b,0,none⟩))),(3,.p 1 0),(6,sV i.2.1 ((Do F F.length).take i.1).length i.2.2),(28,sV na (Do F F.length).length nc),(29,iV ((Do F F.length).length)),(30,iV i.1)])
  (fun _=>[(1,⟨36,[tV (Ae C.c),sV a1 A.length c1,sV a2 Q.length c2]⟩)])
  (fun i u' m'=>i.1<=(Do F F.length).length/\Af H m' (.slice i.2.1 ((Do F F.length).take i.1).length i.2.2) 63 2 ((((Do F F.length).take i.1).map Ly).map Aq)) (fun i=>(Do F F.length).length-i.1) (0,(none,0)) ⟨oV,Af.nil _ _ _⟩ ?_
 rintro J ⟨i,⟨pa,pc⟩⟩ P u5 m5 l5 ⟨hi,m⟩;simp only at hi m P;have aq:=ap.trans l5;by_cases n:i<(Do F F.length).length
 ·refine G.lT i ((Do F F.length).length:Int) ?_;obtain⟨k,hk⟩:∃ k,(Do F F.length)[i]?=some k:=⟨_,Ayr n⟩;have an:(Do F F.length).take (i+1)=(Do F F.length).take i++[k]:=by rw[Aze,hk];rfl
  obtain⟨bb,ob,rfl,eb⟩:=Ac.at' (hN.mono l5) (j:=i) (e:=.int .i64 k) (by simp[Ai,hk]);have b2:((Do F F.length).take i).length=i:=by rw[Ay1];omega
  refine G.a bb ob (Do F F.length).length nc i 1 n<|G.lU none bb (ob+i*1) (.int .i64 k) eb<|G.B 63 2 24 (.agg #[.int .i64 0,.string (mkS [])]) [.agg #[.int .i64 k,.string (mkS [])]] (Ht (Ly k)) ?_;intro g6 u6 l6 e6;refine G.k 63 2 24 (.agg #[.int .i64 0,.string (mkS [])]) H _ [Aq (Ly k)] _ g6 0 1 1 m e6 (Ht (Ly k)) ?_;intro v7 m7 N;have e7:(((Do F F.length).take i).map Ly).map Aq++[Aq (Ly k)]=(((Do F F.length).take (i+1)).map Ly).map Aq:=by rw[an];simp
  rw[e7]at N;obtain⟨a7,c7,rfl⟩:=N.shape;rw[Ayt,Ayt]at N⊢;exact G.i i<|G.b (P (i+1,(a7,c7)) _ _ _ cV (l5.trans l6) ⟨dV,N⟩ dV)
 obtain rfl:i=(Do F F.length).length:=oV;refine G.lF ((Do F F.length).length:Int) ((Do F F.length).length:Int) ?_;clear P;rw[Azj]at m⊢;have ab:Af H m5 (.slice pa (Jf F++Ir F A 0).length pc) 63 2 ((Jf F++Ir F A 0).map Aq):=by
  have e1:Ir F A 0 = []:=rfl;have e2:(Jf F).length=(Do F F.length).length:=by unfold Jf;simp
  rw[e1,Azl,e2];exact m
 have e0:(Do F F.length).length=(Jf F++Ir F A 0).length:=by
  have e1:Ir F A 0 = []:=rfl;have e2:(Jf F).length=(Do F F.length).length:=by unfold Jf;simp
  rw[e1,Azl,e2]
 rw[e0];have b0:(Jf F).length<=8:=by unfold Jf;rw[Ayt];omega
 refine G.l (ι:=Nat×(Option Addr×Nat)) (fun i=>[(2,.v (.pointer (some ⟨b,0,none⟩))),(6,sV i.2.1 (Jf F++Ir F A i.1).length i.2.2),(41,sV a1 A.length c1),(42,iV A.length),(43,iV i.1)]) (fun _=>[])
  (fun i u' m'=>i.1<=A.length/\Af H m' (.slice i.2.1 (Jf F++Ir F A i.1).length i.2.2) 63 2 ((Jf F++Ir F A i.1).map Aq)) (fun i=>A.length-i.1) (0,(pa,pc)) ⟨oV,ab⟩ ?_
 clear m ab e0;rintro J ⟨i,⟨pa,pc⟩⟩ P u6 m6 l6 ⟨hi,m⟩;simp only at hi m P;have af:=aq.trans l6;have ay:=An7 F A i;by_cases n:i<A.length
 ·refine G.lT i A.length ?_;obtain⟨x,a3⟩:∃ x,A[i]?=some x:=⟨_,Ayr n⟩;have hs:=Ak3 (F:=F) a3;have a0:Ac1 F lab x.1:=hb x.1 (by obtain⟨q1,q2⟩:=cA.val x (Ay9 a3);rw[<-q1];exact q2);obtain⟨ba,oa,rfl,ea⟩:=Ac.at' (hA.mono af) (j:=i) (e:=As x) (by simp[a3]);obtain⟨⟨p1,W⟩,q⟩:=x;simp only at hs a0;refine G.a ba oa A.length c1 i 3 n<|G.lU (some 3) ba (oa+i*3) (.agg #[.int .i64 p1,.string (mkS W),.string (mkS (Ae q))]) ea ?_;have step:∀ {u7:PH},PH.le u6 u7->Pj F (p1,W)=false->True:=fun _ _=>trivial;by_cases h0:0<=p1
  ·refine G.hT' p1 0 h0 ?_;obtain⟨k,f,ak,a5⟩:∃ (k:Nat) (f:Am),p1=(k:Int)/\F[k]?=some f:=by
    rcases a0 with ⟨h1,_⟩|⟨k,f,h1,hf,_⟩
    ·simp only at h1;omega
    exact⟨k,f,h1,hf⟩
   subst ak;have al:=(Ayu.1 a5).1;have ae:m6 b=some (.cells [Value.slice X T.length Z,.slice Y R.length xd,.slice I F.length E,.int .i64 lab].toArray 30 (0,0)):=m.see t;refine G.f 30 b 0 2 2<|G.lM none b (0+2) (.slice I F.length E) ((a4 m6 ae).fld (j:=2) (xs:=#[.slice X T.length Z,.slice Y R.length xd,.slice I F.length E,.int .i64 lab]) rfl rfl) ?_;obtain⟨fb,fo,rfl,ef⟩:=Ac.at' (ah.mono af) (j:=k) (e:=Ch f) (by simp[a5]);refine G.a fb fo F.length E k 3 al ?_;obtain⟨f1,f2,f3⟩:=f;refine G.f 105 fb (fo+k*3) 1 1<|G.lU none fb (fo+k*3+1) (.int .i64 f2) (ef.fld (j:=1) (xs:=#[.int .i64 f1,.int .i64 f2,.int .i64 f3]) rfl rfl) ?_;have a9:Pj F ((k:Int),W)=(f2==2):=by
    unfold Pj;simp only[A0y,Ays,a5,A07];rw[decide_eq_true oV];rfl
   rw[a9]at hs;by_cases h2:f2=2
   ·rw[if_pos (by simpa using h2)]at hs;refine G.eT f2 2<|G.B 63 2 24 (.agg #[.int .i64 0,.string (mkS [])]) [.agg #[.int .i64 k,.string (mkS W)]] (Ht ((k:Int),W)) ?_;intro g7 u7 l7 e7;refine G.k 63 2 24 (.agg #[.int .i64 0,.string (mkS [])]) H _ [Aq ((k:Int),W)] _ g7 0 1 1 m e7 (Ht ((k:Int),W)) ?_;intro v8 m8 O;have e8:(Jf F++Ir F A i).map Aq++[Aq ((k:Int),W)]=(Jf F++Ir F A (i+1)).map Aq:=by rw[hs];simp
    rw[e8]at O;obtain⟨a8,c8,rfl⟩:=O.shape;rw[Ayt]at O⊢;exact G.i i<|G.b (P (i+1,(a8,c8)) _ _ _ cV (l6.trans l7) ⟨dV,O⟩ dV)
   rw[if_neg (by simpa using h2)]at hs;refine G.eF f2 2<|G.i i ?_;rw[<-hs]at m⊢;exact G.b (P (i+1,(pa,pc)) _ _ _ cV l6 ⟨dV,m⟩ dV)
  refine G.hF' p1 0 h0 ?_;have a9:Pj F (p1,W)=false:=by
   unfold Pj;rw[decide_eq_false h0];rfl
  rw[a9,if_neg mV]at hs;refine G.i i ?_;rw[<-hs]at m⊢;exact G.b (P (i+1,(pa,pc)) _ _ _ cV l6 ⟨dV,m⟩ dV)
 obtain rfl:i=A.length:=oV;refine G.lF A.length A.length ?_;clear P;have U:(Jf F++Ir F A A.length).Nodup:=Aep (cA.srt.nodup Dl);have a6:∀ p,p∈Jf F++Ir F A A.length↔_:=fun p=>Akl (F:=F) cA (p:=p);have ac:(Jf F++Ir F A A.length).length<=1000000:=by rw[Ay3];omega
 generalize Jf F++Ir F A A.length=L at m U a6 ac;by_cases ag:24<L.length
 ·exact G.gT L.length 24<|G.drop PH.mt kV (PH.mt_le _)<|G.r (.tuple #[.slice none 0 0,.int .i64 3]) ⟨rfl,.inl ⟨rfl,Ew Bf L,by rw[(H5 (c:=Bf) L).length_eq];exact ag,Tp Dl U,fun p=>(H5 (c:=Bf) L).mem_iff.trans (a6 p)⟩⟩
 refine G.gF L.length 24<|G.callA _ _ kV kV call247 (Bw m6).symm (Jv m6) (Am5 m U ac) ?_;rintro v7 u7 m7 l7 ⟨rfl,hS⟩ _;rw[Bw];have hp:=H5 (c:=Bf) L;have b1:(Ew Bf L).length=L.length:=hp.length_eq;refine G.give _ _ _ kV hS (fun g=>.inl rfl) ?_;intro u8 l8 ai;exact G.drop PH.mt kV (PH.mt_le _)<|G.r (.tuple #[.slice pa L.length pc,.int .i64 0]) ⟨rfl,.inr ⟨_,Ew Bf L,rfl,ai,oV,Tp Dl U,fun p=>hp.mem_iff.trans (a6 p)⟩⟩
end
section
variable {A:List (Par×Rat)}{C:CF}{F:List Am}{i n:Nat}{p:Par}
def G1 (F:List Am)(A:List (Par×Rat))(i:Nat):List Par:=if (F.getD i (0,0,0)).2.1=1 then [Ly i] else (A.map (·.1)).filter fun p=>p.1==(i:Int)
def G4 (F:List Am)(A:List (Par×Rat))(n:Nat):List Par:=(List.range n).flatMap (G1 F A)
def Td (F:List Am)(A:List (Par×Rat))(n:Nat):G4 F A (n+1)=G4 F A n++G1 F A n:=by
 unfold G4;rw[A4r,List.flatMap_append];simp
def Te (h:p∈G1 F A i):p.1=(i:Int):=by
 unfold G1 at h;split at h
 ·simp at h;subst h;rfl
 have:=(A2v.1 h).2;simpa using this
def Aoc (h:p∈G4 F A n):0<=p.1/\p.1<(n:Int):=by
 unfold G4 at h;obtain⟨i,hi,hp⟩:=A4d.1 h;have:=Te hp;simp at hi;omega
def And {p q:Par}(h:p.1<q.1):Bf p q<0:=by
 unfold Bf Qg;rw[if_pos h,if_pos oV];omega
def Yx {F:List Am}{A:List (Par×Rat)}(e:Ez Bf (A.map (·.1))):∀ n,Ez Bf (G4 F A n)
 |0=>List.Pairwise.nil
 |n+1=>by
  rw[Td];refine A1e.2 ⟨Yx e n,?_,fun p hp q g=>?_⟩
  ·unfold G1;split
   ·exact A4i _ _
   exact e.filter _
  have h:=Aoc hp;have j:=Te g;exact And oV
def Apu (E:Can Bf C.s A)(I:∀ f∈F,f.2.1=1\/f.2.1=2):p∈G4 F A F.length↔(∃ (i:Nat) (f:Am),p=Ly i/\F[i]?=some f/\f.2.1=1)\/(C.s p≠0/\∃ (i:Nat) (f:Am),p.1=(i:Int)/\F[i]?=some f/\f.2.1=2):=by
 have g:p∈A.map (·.1)↔C.s p≠0:=by
  constructor
  ·intro h;obtain⟨x,J,rfl⟩:=Ayx.1 h;obtain⟨j,u⟩:=E.val x J;rw[<-j];exact u
  intro h;exact A2e fun H=>h (E.out p H)
 unfold G4;rw[A4d];constructor
 ·rintro⟨i,hi,hp⟩;have t:i<F.length:=by simpa using hi
  have m:F[i]?=some F[i]:=Ayr t;have e:F.getD i (0,0,0)=F[i]:=by simp[Ays,m]
  have j:=Te hp;unfold G1 at hp;rw[e]at hp;split at hp
  ·rename_i h;simp at hp;exact .inl ⟨i,F[i],hp,m,h⟩
  rename_i h;exact .inr ⟨g.1 (A2v.1 hp).1,i,F[i],j,m,(I _ (Ay8 t)).resolve_left h⟩
 rintro (⟨i,f,rfl,hf,j⟩|⟨h0,i,f,j,hf,u⟩)
 ·have e:F.getD i (0,0,0)=f:=by simp[Ays,hf]
  refine⟨i,by simpa using (Ayu.1 hf).1,?_⟩;unfold G1;rw[e,if_pos j];simp
 have e:F.getD i (0,0,0)=f:=by simp[Ays,hf]
 refine⟨i,by simpa using (Ayu.1 hf).1,?_⟩;unfold G1;rw[e,if_neg oV];exact A2v.2 ⟨g.2 h0,by simpa using j⟩
def Aqp (n:Nat):(G4 F A n).length<=n*(A.length+1):=by
 induction n with
 |zero=>exact Azh _
 |succ n ih =>
  rw[Td,Ay3,Azt,A1k];have:(G1 F A n).length<=A.length+1:=by
   unfold G1;split
   ·simp
   refine Ayv (A47 _ _) ?_;rw[Ayt];omega
  omega
def G3 (A:List (Par×Rat))(i n:Nat):List Par:=((A.take n).map (·.1)).filter fun p=>p.1==(i:Int)
def Afo {x:Par×Rat}(h:A[n]?=some x):G3 A i (n+1)=if x.1.1=(i:Int) then G3 A i n++[x.1] else G3 A i n:=by
 unfold G3;have e:A.take (n+1)=A.take n++[x]:=by rw[Aze,h];rfl
 rw[e,Aza,A7e];by_cases g:x.1.1=(i:Int)
 ·rw[if_pos g,Azu,A5x (by simpa using g)];rfl
 rw[if_neg g,Azu,A5y (by simpa using g)];simp
def Akn (A:List (Par×Rat))(i n:Nat):(G3 A i n).length<=A.length:=by
 unfold G3;refine Ayv (A47 _ _) ?_;rw[Ayt,Ay1];omega
def Wu {u:PH}{v w:Value}{T:List (List UInt8×Nat)}{R:List Bu}{lab:Int}{K:Nat}(hX:G8 u v T R F lab)(ok:Bt u T R F lab)(hC:Nu u w C K)(sC:CFS C)(vC:CFV C)(hK:K<=10000)(hb:∀ p,C.s p≠0->Ac1 F lab p) :
 Fn0 prog 11 [v,w] u fun r u'=>Axb u' r F C:=by
 have am:=fun (u':PH) (l:PH.le u u')=>R9 (hX.mono l) (ok.mono l);have aq:=fun (u':PH) (l:PH.le u u')=>Af8 (hC.mono l) sC vC oV;have ae:∀ f∈F,f.2.1=1\/f.2.1=2:=fun f O=>by
  obtain⟨n,k,_,W,_⟩:=ok.feat.ok f O;rcases W with ⟨W,_⟩|⟨W,_⟩
  ·exact .inl W
  exact .inr W
 obtain⟨xa,xc,xb,xd,xe,xf,rfl,ax,aw,aj⟩:=id hX;obtain⟨A,Q,a1,c1,a2,c2,rfl,hA,hQ,cA,cQ,kA,kQ⟩:=hC;have ay:=ok.f2;have al:∀ n,n<=8->(G4 F A n).length<=100000:=fun n hn=>by
  have:=Aqp (F:=F) (A:=A) n;have W:n*(A.length+1)<=8*(A.length+1):=Az7 _ hn;omega
 refine Fn0.o func11<|G.c call45 (am u (PH.le_refl _)) ?_;rintro v1 u1 l1 rfl;refine G.nF 0 0<|G.c call46 (aq u1 l1) ?_;rintro v2 u2 l2 rfl;have ar:=l1.trans l2;refine G.l (ι:=Nat×(Option Addr×Nat)) (fun i=>[(2,.p 0 0),(3,.p 1 0),(7,sV i.2.1 (G4 F A i.1).length i.2.2),(26,sV xe F.length xf),(27,iV F.length),(28,iV i.1)])
  (fun _=>[(0,⟨30,[sV xa T.length xc,sV xb R.length xd,sV xe F.length xf,iV lab]⟩),(1,⟨36,[tV (Ae C.c),sV a1 A.length c1,sV a2 Q.length c2]⟩)])
  (fun i u' m'=>i.1<=F.length/\Af PH.mt m' (.slice i.2.1 (G4 F A i.1).length i.2.2) 63 2 ((G4 F A i.1).map Aq)) (fun i=>F.length-i.1) (0,(none,0)) ⟨oV,Af.nil _ _ _⟩ ?_
 rintro J ⟨i,⟨pa,X⟩⟩ hJ u3 m3 l3 ⟨hi,N⟩;simp only at hi N hJ;have a3:=ar.trans l3;have ap:=al i oV;by_cases af:i<F.length
 ·refine G.lT i F.length ?_;obtain⟨f,a6⟩:∃ f,F[i]?=some f:=⟨_,Ayr af⟩;have ac:F.getD i (0,0,0)=f:=by simp[Ays,a6]
  have hs:=Td F A i;obtain⟨fb,fo,rfl,ef⟩:=Ac.at' (aj.mono a3) (j:=i) (e:=Ch f) (by simp[a6]);obtain⟨f1,f2,f3⟩:=f;refine G.a fb fo F.length xf i 3 af<|G.lU (some 3) fb (fo+i*3) (.agg #[.int .i64 f1,.int .i64 f2,.int .i64 f3]) ef ?_;by_cases ad:f2=1
  ·have hp:G1 F A i = [Ly i]:=by unfold G1;rw[ac,if_pos ad]
   rw[hp]at hs;refine G.eT f2 1<|G.B 63 2 24 (.agg #[.int .i64 0,.string (mkS [])]) [.agg #[.int .i64 i,.string (mkS [])]] (Ht (Ly i)) ?_;intro g6 u6 l6 e6;refine G.k 63 2 24 (.agg #[.int .i64 0,.string (mkS [])]) PH.mt ((G4 F A i).map Aq) [Aq (Ly i)] _ g6 0 1 1 N e6 (Ht (Ly i)) ?_;intro v7 m7 H;rw[show (G4 F A i).map Aq++[Aq (Ly i)]=(G4 F A (i+1)).map Aq by rw[hs];simp]at H;obtain⟨a7,c7,rfl⟩:=H.shape;rw[Ayt]at H⊢;exact G.i i<|G.b (hJ (i+1,(a7,c7)) _ _ _ cV (l3.trans l6) ⟨dV,H⟩ dV)
  have hp:G1 F A i=G3 A i A.length:=by unfold G1 G3;rw[ac,if_neg ad,Azj]
  rw[hp]at hs;refine G.eF f2 1 ?_;have a9:Af PH.mt m3 (.slice pa (G4 F A i++G3 A i 0).length X) 63 2 ((G4 F A i++G3 A i 0).map Aq):=by
   rw[show G3 A i 0 = [] from rfl,Azl];exact N
  have e0:(G4 F A i).length=(G4 F A i++G3 A i 0).length:=by rw[show G3 A i 0 = [] from rfl,Azl]
  rw[e0];refine G.l (ι:=Nat×(Option Addr×Nat)) (fun n=>[(2,.p 0 0),(3,.p 1 0),(7,sV n.2.1 (G4 F A i++G3 A i n.1).length n.2.2),(8,iV i),(26,sV (some ⟨fb,fo,none⟩) F.length xf),(27,iV F.length),(28,iV i),(42,sV a1 A.length c1),(43,iV A.length),(44,iV n.1)])
   (fun _=>[(0,⟨30,[sV xa T.length xc,sV xb R.length xd,sV (some ⟨fb,fo,none⟩) F.length xf,iV lab]⟩),(1,⟨36,[tV (Ae C.c),sV a1 A.length c1,sV a2 Q.length c2]⟩)])
   (fun n u' m'=>n.1<=A.length/\Af PH.mt m' (.slice n.2.1 (G4 F A i++G3 A i n.1).length n.2.2) 63 2 ((G4 F A i++G3 A i n.1).map Aq)) (fun n=>A.length-n.1) (0,(pa,X)) ⟨oV,a9⟩ ?_
  clear N a9 e0;rintro J2 ⟨n,⟨pa,X⟩⟩ I u4 m4 l4 ⟨hn,N⟩;simp only at hn N I;have b0:=Akn A i n;by_cases P:n<A.length
  ·refine G.lT n A.length ?_;obtain⟨x,a5⟩:∃ x,A[n]?=some x:=⟨_,Ayr P⟩;have U:=Afo (i:=i) a5;obtain⟨ba,oa,rfl,ea⟩:=Ac.at' (hA.mono (a3.trans l4)) (j:=n) (e:=As x) (by simp[a5]);obtain⟨⟨m,E⟩,q⟩:=x;simp only at U;refine G.a ba oa A.length c1 n 3 P<|G.lU (some 3) ba (oa+n*3) (.agg #[.int .i64 m,.string (mkS E),.string (mkS (Ae q))]) ea ?_;by_cases Y:m=(i:Int)
   ·rw[if_pos Y]at U;refine G.eT' m i Y<|G.B 63 2 24 (.agg #[.int .i64 0,.string (mkS [])]) [.agg #[.int .i64 m,.string (mkS E)]] (Ht (m,E)) ?_;intro g6 u6 l6 e6;refine G.k 63 2 24 (.agg #[.int .i64 0,.string (mkS [])]) PH.mt ((G4 F A i++G3 A i n).map Aq) [Aq (m,E)] _ g6 0 1 1 N e6 (Ht (m,E)) ?_;intro v7 m7 H;rw[show (G4 F A i++G3 A i n).map Aq++[Aq (m,E)]=(G4 F A i++G3 A i (n+1)).map Aq by rw[U];simp]at H;obtain⟨a7,c7,rfl⟩:=H.shape;rw[Ayt]at H⊢;exact G.i n<|G.b (I (n+1,(a7,c7)) _ _ _ cV (l4.trans l6) ⟨dV,H⟩ dV)
   rw[if_neg Y]at U;refine G.eF' m i Y<|G.i n ?_;rw[<-U]at N⊢;exact G.b (I (n+1,(pa,X)) _ _ _ cV l4 ⟨dV,N⟩ dV)
  obtain rfl:n=A.length:=oV;refine G.lF A.length A.length<|G.i i ?_;rw[<-hs]at N⊢;exact G.b (hJ (i+1,(pa,X)) _ _ _ cV (l3.trans l4) ⟨dV,N⟩ dV)
 obtain rfl:i=F.length:=oV;refine G.lF F.length F.length ?_;clear hJ;have Z:∀ p,p∈G4 F A F.length↔_:=fun p=>Apu (F:=F) cA ae (p:=p);have V:Ez Bf (G4 F A F.length):=Yx cA.srt _;generalize av:G4 F A F.length=L at N Z V ap;have ao:∀ x∈A,(x.1.1 = -1/\0<=lab/\x.1.2 = [])\/(0<=x.1.1/\x.1∈L):=fun x hx=>by
  obtain⟨q1,q2⟩:=cA.val x hx;have ag:C.s x.1≠0:=by rw[<-q1];exact q2
  rcases hb x.1 ag with h|⟨k,f,h1,O,h3⟩
  ·exact .inl h
  refine .inr ⟨oV,(Z x.1).2 ?_⟩;rcases ae f (Ay9 O) with h4|h4
  ·refine .inl ⟨k,f,?_,O,h4⟩;obtain⟨⟨m,E⟩,q⟩:=x;simp only at h1 h3;rw[h1,h3.resolve_left oV];rfl
  exact .inr ⟨ag,k,f,h1,O,h4⟩
 refine G.l (ι:=Nat) (fun i=>[(2,.p 0 0),(7,sV pa L.length X),(61,sV a1 A.length c1),(62,iV A.length),(63,iV i)])
  (fun _=>[(0,⟨30,[sV xa T.length xc,sV xb R.length xd,sV xe F.length xf,iV lab]⟩)])
  (fun i u' m'=>i<=A.length/\m'=m3) (fun i=>A.length-i) 0 ⟨oV,rfl⟩ ?_
 rintro J i hJ u4 m4 l4 ⟨az,rfl⟩;have au:=a3.trans l4;by_cases a0:i<A.length
 ·refine G.lT i A.length ?_;obtain⟨x,a4⟩:∃ x,A[i]?=some x:=⟨_,Ayr a0⟩;have hx:=ao x (Ay9 a4);obtain⟨ba,oa,rfl,ea⟩:=Ac.at' (hA.mono au) (j:=i) (e:=As x) (by simp[a4]);obtain⟨⟨m,E⟩,q⟩:=x;simp only at hx;refine G.a ba oa A.length c1 i 3 a0<|G.lU (some 3) ba (oa+i*3) (.agg #[.int .i64 m,.string (mkS E),.string (mkS (Ae q))]) ea ?_;rcases hx with ⟨h1,W,h3⟩|⟨h1,W⟩
  ·exact G.eT' m (-1) h1<|G.hT' lab 0 W<|G.q E [] h3<|G.i i<|G.b (hJ (i+1) _ _ _ cV l4 ⟨oV,rfl⟩ oV)
  refine G.eF m (-1)<|G.l (ι:=Nat×Bool) (fun n=>[(2,.p 0 0),(7,sV pa L.length X),(13,.p 21002 0),(14,bV n.2),(61,sV (some ⟨ba,oa,none⟩) A.length c1),(62,iV A.length),(63,iV i),(82,sV pa L.length X),(83,iV L.length),(84,iV n.1)])
   (fun _=>[(0,⟨30,[sV xa T.length xc,sV xb R.length xd,sV xe F.length xf,iV lab]⟩),(21002,⟨65,[iV m,tV E,tV (Ae q)]⟩)])
   (fun n u' m'=>n.1<=L.length/\m'=m4/\n.2=(L.take n.1).any fun y=>decide (y=(m,E))) (fun n=>L.length-n.1) (0,false) ⟨oV,rfl,rfl⟩ ?_
  rintro J2 ⟨n,ah⟩ I u5 m5 l5 ⟨hn,rfl,O⟩;simp only at hn O I;by_cases P:n<L.length
  ·refine G.lT n L.length ?_;obtain⟨y,a8⟩:∃ y,L[n]?=some y:=⟨_,Ayr P⟩;have t:((L.take (n+1)).any fun y=>decide (y=(m,E)))=(((L.take n).any fun y=>decide (y=(m,E)))||decide (y=(m,E))):=by
    rw[Aze,a8,List.any_append];simp
   obtain⟨gs,cs,ab⟩:=N.ptr (fun e=>by
    have:L.length=0:=by simpa using congrArg List.length e
    omega)
   simp only[Value.slice.injEq]at ab;obtain⟨rfl,_,rfl⟩:=ab;have an:ElP m5 gs (0+n*2) (Aq y):=N.el (by rw[Ayy,a8];rfl);refine G.a gs 0 L.length X n 2 P<|G.lM (some 2) gs (0+n*2) (.agg #[.int .i64 y.1,.string (mkS y.2)]) an ?_;cases ah with
   |true =>
    refine G.i n ?_;rw[<-O,Bool.true_or]at t;exact G.b (I (n+1,true) _ _ _ cV l5 ⟨dV,rfl,t.symm⟩ dV)
   |false =>
    rw[<-O,A7f]at t;by_cases Y:y=(m,E)
    ·rw[decide_eq_true Y]at t;exact G.eqAgg 63 #[.int .i64 y.1,.string (mkS y.2)] #[.int .i64 m,.string (mkS E)] true kV kV kV (fun w=>by rw[<-decide_eq_true Y];exact Bx.eq y (m,E) w)<|G.i n<|G.b (I (n+1,true) _ _ _ cV l5 ⟨dV,rfl,t.symm⟩ dV)
    rw[decide_eq_false Y]at t;exact G.eqAgg 63 #[.int .i64 y.1,.string (mkS y.2)] #[.int .i64 m,.string (mkS E)] false kV kV kV (fun w=>by rw[<-decide_eq_false Y];exact Bx.eq y (m,E) w)<|G.i n<|G.b (I (n+1,false) _ _ _ cV l5 ⟨dV,rfl,t.symm⟩ dV)
  obtain rfl:n=L.length:=oV;refine G.lF L.length L.length ?_;have aa:((L.take L.length).any fun y=>decide (y=(m,E)))=true:=by
   rw[Azj];exact A4c.2 ⟨_,W,mV⟩
  rw[aa]at O;subst O;exact G.i i<|G.b (hJ (i+1) _ _ _ cV (l4.trans l5) ⟨oV,rfl⟩ oV)
 obtain rfl:i=A.length:=oV;refine G.lF A.length A.length ?_;by_cases ai:24<L.length
 ·exact G.gT L.length 24<|G.drop PH.mt kV (PH.mt_le _)<|G.r (.tuple #[.slice none 0 0,.int .i64 3]) ⟨rfl,.inl ⟨rfl,L,ai,V,Z⟩⟩
 refine G.gF L.length 24<|G.give _ _ _ kV N (fun g=>.inl rfl) ?_;intro u8 l8 ak;exact G.r (.tuple #[.slice pa L.length X,.int .i64 0]) ⟨rfl,.inr ⟨_,L,rfl,ak,oV,V,Z⟩⟩
end
section
variable [Cc] [Cm]
section
variable {P:Program} {id:Nat} {ops:Array Oper} {dr:Bool} {Fin:S->PH->PH->Prop} {c:Cx} {Q:Exit->Act->World->Prop}
def Ob.wpAny3 {s0:S}(N:M6 s0)(hE:(List.range ops.size).all (Hs ops)=true)(hF:∀ s u m ρ a w,Fin s u m->Rel c s u m ρ a w->Q .normal a w){p q r:Nat}{g:List Nat}(U:∀ y∈g,bef ops ops.size y p=true)(a3:bef ops ops.size r q=true)(a2:dir ops p q=false)(a1:dir ops p r=false) :
 ∀ (n:Nat) (C:List Nat) (j:Array Bool) {s:S} {u m:PH} {ρ:Nat->Nat} {a:Act} {w:World},C.length+(g.length+3)=n->H9 ops j (C++p::q::r::g) ->
  (C++p::g).Pairwise (fun x y=>Ed ops s0 x y=true)->(C++q::r::g).Pairwise (fun x y=>Ed ops s0 x y=true)->Fi ops s0 s ->
  Ob P id ops true (fun s u m=>Ob P id ops true Fin (p::q::r::g) s u m/\Ob P id ops true (fun s u m=>Ob P id ops true Fin (p::r::g) s u m/\Ob P id ops true Fin (r::p::g) s u m) [q] s u m) C s u m->Rel c s u m ρ a w->Go.wpAny P .any ops Q n j a w:=by
 intro n;induction n with
 |zero=>intro C j s u m ρ a w X;omega
 |succ n ih =>
  intro C j s u m ρ a w X e I J K hO hr;refine⟨fun Y=>?_,fun i hi=>?_⟩
  ·exfalso;cases C with
   |nil =>
    have:=e.first hE fun x H=>by
     simp only[Ay7]at H;rcases H with rfl|rfl|H
     ·exact a2
     ·exact a1
     exact Bbc (A0m I H)
    rw[Y]at this;cases this
   |cons t T' =>
    have:=H9.first (t:=t) (T:=T'++p::q::r::g) e hE fun x H=>by
     simp only[Ay5,Ay7]at H;rcases H with H|rfl|rfl|rfl|H
     ·exact Bbc (A0m I (by simp[H]))
     ·exact Bbc (A0m I mV)
     ·exact Bbc (A0m J mV)
     ·exact Bbc (A0m J mV)
     exact Bbc (A0m I (by simp[H]))
    rw[Y]at this;cases this
  obtain⟨h1,h2,o,Z,F⟩:=Oj.1 hi;have L:=(e.mem i h1).1 h2;simp only[Ay5,Ay7]at L;rcases L with L|L|L|L|L
  ·obtain⟨A,B,rfl⟩:=A3i L;have E:H9 ops j (A++i::(B++p::q::r::g)):=by
    rw[Azm]at e;exact e
   have W:(A++i::(B++p::g)).Pairwise (fun x y=>Ed ops s0 x y=true):=by
    rw[Azm]at I;exact I
   have a0:(A++i::(B++q::r::g)).Pairwise (fun x y=>Ed ops s0 x y=true):=by
    rw[Azm]at J;exact J
   have V:=E.swaps (A:=A) (s0:=s0) (fun x H=>by simp[H]) Z F fun x H=>(A1e.1 W).2.2 x H i mV;have O:=Ob.bubble N A V hr.lv K hO;refine wpOp_mono (fun a' w' ⟨s',u',m',ρ',r1,ra,r2⟩=>?_) (O.step (Q:=Q) hr);refine ih (A++B) _ (by simp at X⊢;omega) (by rw[Azm];exact E.next Z F) ?_ ?_ (K.trans ra) r2 r1
   ·rw[Azm];exact W.sublist (A2h (A2p i _) A)
   rw[Azm];exact a0.sublist (A2h (A2p i _) A)
  ·subst L;have V:=e.swaps (A:=C) (s0:=s0) (fun x H=>by simp[H]) Z F fun x H=>(A1e.1 I).2.2 x H i mV;have O:=Ob.bubble N C V hr.lv K (Ob.append (l2:=i::q::r::g) (hO.fin fun s u m h=>h.1));refine wpOp_mono (fun a' w' ⟨s',u',m',ρ',r1,ra,r2⟩=>?_) (O.step (Q:=Q) hr);exact (e.next Z F).any N hE hF gV J (K.trans ra) r2 r1
  ·subst L;have E:H9 ops j (C++i::p::r::g):=e.perm ((List.Perm.swap i p (r::g)).append_left C);have V:=E.swaps (A:=C) (s0:=s0) (fun x H=>by simp[H]) Z F fun x H=>(A1e.1 J).2.2 x H i mV;have O:=Ob.bubble (B:=[]) N C V hr.lv K (Ob.append (l2:=[i]) (hO.fin fun s u m h=>h.2));refine wpOp_mono (fun a' w' ⟨s',u',m',ρ',r1,ra,r2⟩=>?_) (O.step (Q:=Q) hr);rw[Azl]at r2;exact Ob.wpAny2 N hE hF U a1 n C _ oV (E.next Z F) I (J.sublist (A2h (A2p i _) C)) (K.trans ra) r2 r1
  ·exfalso;subst L;exact e.no (x:=q) mV (Fd e.cl ops.size i (fun o' R=>by rw[Z]at R;obtain rfl:=A0j R;exact F) a3)
  exfalso;exact e.no (x:=p) mV (Fd e.cl ops.size i (fun o' R=>by rw[Z]at R;obtain rfl:=A0j R;exact F) (U i L))
def Apf (ops:Array Oper)(s:S)(pre:List Nat)(p q r:Nat)(post:List Nat):Bool :=
 Nat.beq (pre.length+(post.length+3)) ops.size&&(List.range ops.size).all (fun i=>(pre++p::q::r::post).contains i)&&(pre++p::q::r::post).all (fun i=>Nat.blt i ops.size)&&Mw ops s (pre++p::post)&&Mw ops s (pre++q::r::post) &&
  (List.range ops.size).all (Hs ops)&&post.all (fun y=>bef ops ops.size y p) && !dir ops p q && !dir ops p r && !Nat.beq p q && !Nat.beq p r&&bef ops ops.size r q
end
section
variable {P:Program} {fn:Func} {Post:By}
def Sym.reg_three (hm:P.follows .mixedOrders=true){id:Nat}{ops:Array Oper}{j g:List Nat}{p q r:Nat}{s:S}(I:Apf ops s j p q r g=true){k:List KI}{u m:PH}
 (h:Ob P id ops true (fun s u m=>Ob P id ops true (Fw P fn Post k) (p::q::r::g) s u m/\Ob P id ops true (fun s u m=>Ob P id ops true (Fw P fn Post k) (p::r::g) s u m/\Ob P id ops true (Fw P fn Post k) (r::p::g) s u m) [q] s u m) j s u m):Fw P fn Post (.code (.region id ops true)::k) s u m:=by
 intro c ρ a w K E;simp only[Fy,Exit.then];unfold Apf at I;simp only[Azb,A1b]at I;obtain⟨⟨⟨⟨⟨⟨⟨⟨⟨⟨⟨F,V⟩,W⟩,b4⟩,b5⟩,b6⟩,X⟩,b8⟩,b9⟩,n⟩,t⟩,H⟩:=I;have F:=Azp F;rw[Azg]at V W X;have T:=Ef b4;have U:=Ef b5;have O:=G2 T;have R:=G2 U;have L:p≠q:=fun e=>by rw[e]at n;simp at n
 have C:p≠r:=fun e=>by rw[e]at t;simp at t
 refine wp_region_any hm ?_;refine Ob.wpAny3 (c:=c) E.lv b6 (fun s u m ρ a w hf E=>hf c ρ a w K E) X H b8 b9 _ j _ F ⟨mV,fun i hi=>?_,fun i hi=>A5t▸W i hi,?_,fun i hi=>?_⟩ T U (Fi.refl _ _) h E.drew
 ·have:=V i (by simpa using hi);rw[A6l]at this;simp only[Azn,A5r,hi,if_true,A07];exact⟨fun _=>this,fun _=>trivial⟩
 ·rw[A1h]at O R⊢;simp only[A1i,Ay7]at O R⊢;obtain⟨Z,⟨a2,a3⟩,a4⟩:=O;obtain⟨c1,c2,c4⟩:=R;refine⟨Z,⟨fun e=>?_,c2⟩,fun x Y y N=>?_⟩
  ·rcases e with e|e|e
   ·exact L e
   ·exact C e
   exact a2 e
  rcases N with rfl|N
  ·exact a4 x Y _ (.inl rfl)
  exact c4 x Y _ N
 exfalso;simp only[Azn]at hi;by_cases J:i<ops.size
 ·simp[J]at hi
 rw[A1w gV]at hi;simp at hi
def Aqc (P:Program)(pre:List Nat)(p q r:Nat)(post:List Nat)(st:List KI×S):Bool:=match st with
 |(.code (.region id ops true)::k,s)=>Apf ops s pre p q r post&&(Pd P id ops pre s).isSome
 |_=>false
end
section rules
variable {P:Program} [A5 P] {fn:Func} {Post:By} {st:List KI×S} {u m:PH}
def Adl (e:TypeId)(sz V:Nat)(z:Value)(es:List Value)(L:Ba sz es)(a0:z.cells.size=sz)(N:0<sz)(J:0<es.length)(hb:es.length*sz<=16777216)(C:Operand->Value)(o:Oper)(n:Bg P C o.op=.buildS (some (e,sz,V,z)) es.length (es.zipIdx.map fun p=>(p.2,p.1)))(w:World)(F:Bo u m w) :
 Eb P C o w fun v' w'=>∃ R O,Bo R O w'/\Br u m w R O w'/\(O=m/\∃ g,v'=.slice (some ⟨g,0,none⟩) es.length es.length/\Fz R g 0 sz es):=by
 obtain⟨t,qs,T,Y,hi⟩:=Ee n;obtain⟨W,a1,U,pos,after,E⟩:=o;simp only at T;subst T;obtain⟨hu,i,H,I,rfl,rfl⟩:=Dx hi;obtain⟨g1,g2,g3,g4⟩:=F.newU (.cells (A6 es).toArray e (0,0));have Z:=Bb L;have K:es.length*i.size≠0:=by have:=A24 J N;omega
 have h:=Nk es 0 ((Array.range (es.length*i.size)).map (z.cells[· % z.cells.size]!)) L mV;have X:((Array.range (es.length*i.size)).map (z.cells[· % z.cells.size]!)).toList.drop (es.length*i.size) = []:=by
  apply A3w;simp
 simp only[A22,A14,A00,A0h,X,Azl]at h;refine B0 (w':=w.alloc (.cells (A6 es).toArray e (0,0))) (v:=.slice (some ⟨w.heap.size,0,none⟩) es.length es.length) ?_ ⟨_,m,g1,g2,rfl,_,rfl,?_⟩
 ·simp only[execOp,Y];simp[Instr.buildSlice,run_underlying hu,sizeOf,typeInfo,zeroValue,H,I,K,h,newRow,show ¬ 16777216<es.length*i.size by omega]
 intro j x hj ii y hy;refine⟨_,_,_,Ab _ _ _,?_⟩;rw[A06,A0h];exact Ib L hj hy
def G.three (n:List Nat)(p q r:Nat)(j:List Nat)(e:TypeId)(sz Z:Nat)(z:Value)(es:List Value)(h:Aqc P n p q r j (adv P st)=true)(T:Aj P (Nr P n (q::p::r::j) (adv P st))=.buildS (some (e,sz,Z,z)) es.length (es.zipIdx.map fun p=>(p.2,p.1)))(ho:Ba sz es)(V:z.cells.size=sz)(U:0<sz)(R:0<es.length)(hb:es.length*sz<=16777216)
 (W:G P fn Post (Nr P n (p::q::r::j) (adv P st)) u m)
 (X:∀ g E,PH.le u E->Fz E g 0 sz es->G P fn Post (nx (Nr P n (q::p::r::j) (adv P st)) (.slice (some ⟨g,0,none⟩) es.length es.length)) E m/\G P fn Post (nx (Nr P n (q::r::p::j) (adv P st)) (.slice (some ⟨g,0,none⟩) es.length es.length)) E m):G P fn Post st u m:=by
 refine G.stp ⟨?_⟩;generalize adv P st=st' at h T W X;unfold Aqc at h;split at h
 ·rename_i id ops k s;rw[Azb]at h;obtain⟨h1,h2⟩:=h;obtain⟨I,H⟩:=A3m.1 h2;have J:∀ l,Nr P n l (.code (.region id ops true)::k,s)=(.reg id ops true l::k,I):=fun l=>by unfold Nr;simp only[H]
  rw[J]at W T;rw[J,J]at X;obtain⟨a3,a0,a1,i',l',a4,a5,o,e1,F,hg,hd,hv,hs,C,a2⟩:=Eg T mV;simp only[Az0,A0f,KI.reg.injEq]at e1;obtain⟨⟨⟨rfl,rfl,rfl,rfl,rfl⟩,rfl⟩,rfl⟩:=e1;refine Sym.reg_three A5.mx h1 (Ob.autos H ⟨W.out,?_⟩);refine Ob.big (K:=fun v' E Y=>Y=m/\∃ g,v'=.slice (some ⟨g,0,none⟩) es.length es.length/\Fz E g 0 sz es) F hg hd hv hs (by
   obtain⟨t,qs,e2,_⟩:=Ee C;rw[e2];rfl) (fun v E Y L=>.inl (by rw[L.1];exact PH.le_refl _)) (fun w N=>Adl e sz Z z es ho V U R hb _ o C w N) (fun v E Y O L=>?_)
  obtain⟨rfl,g,rfl,hE⟩:=L;obtain⟨c1,c2⟩:=X g E O hE;have n1:nx (.reg id ops true (q::p::r::j)::k,I) (.slice (some ⟨g,0,none⟩) es.length es.length)=(.reg id ops true (p::r::j)::k,I.put o.dst (.v (.slice (some ⟨g,0,none⟩) es.length es.length))):=by
   unfold nx;simp only[F]
  have n2:nx (.reg id ops true (q::r::p::j)::k,I) (.slice (some ⟨g,0,none⟩) es.length es.length)=(.reg id ops true (r::p::j)::k,I.put o.dst (.v (.slice (some ⟨g,0,none⟩) es.length es.length))):=by
   unfold nx;simp only[F]
  rw[n1]at c1;rw[n2]at c2;exact .nil ⟨c1.out,c2.out⟩
 cases h
end rules
end
end Go.Proofs.YtijchbjkdllolaaGreatDoor
