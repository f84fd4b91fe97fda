/- Parts of one proof, joined by a program. -/
import Derived.Test.YtemmheaocgmebaaGreatDoorR09
set_option linter.defProp false
set_option linter.unusedVariables false
set_option linter.unusedSimpArgs false
set_option linter.unusedSectionVars false
set_option maxHeartbeats 16000000
namespace Go.Proofs.YtemmheaocgmebaaGreatDoor
open Go.Proofs.Tryz
open Go.RowKit Go.MapKept
def A9i:=@List.length_eq_zero_iff
def A83:=@Array.size_modify
def A8d:=@List.length_filter_le
def A9g:=@Rat.le_total
def A4o:=@Rat.mul_nonneg
def Bat:=@Rat.le_of_lt
def A40:=@Rat.mul_eq_zero
def Bau:=@Rat.mul_zero
def A9w:=@List.set_getElem_self
theorem Src.h0or (s:Src)(k j:Nat)(m:PH)(g:Nat):s.M k g=none\/(m.or (s.M j)) g≠none:=by
 rcases s.h0 k j g with e|e
 ·grind
 right;intro h;cases hx:m g with
 |some o=>rw[PH.or_l hx]at h;cases h
 |none=>rw[PH.or_r hx]at h;exact e h
def Atc {m:PH}{a b c d:Arr}(h:Bag m [a,b,c,d]):Bag m [a,c,d]:=by
 have e:Bag m [a,c,d,b]:=Bag.perm (List.Perm.cons a ((List.Perm.swap c b [d]).trans (List.Perm.cons c (List.Perm.swap d b [])))) h;obtain⟨g,t,j,u,n,z,_⟩:=e;exact⟨g,t,j,u,n,z,trivial⟩
def Ay7 {x:Int}(h:x∈[1,2,2,(3:Int)]):∃ n:Nat,x=(n:Int)/\1<=n/\n<=3:=by
 simp at h;rcases h with rfl|rfl|rfl
 ·exact⟨1,rfl,oV,oV⟩
 ·exact⟨2,rfl,oV,oV⟩
 exact⟨3,rfl,oV,oV⟩
def Ags {u:PH}{s:Src}{ts:List Int}{k:Nat}(most:Nat)(f5:1<=most)(e0:most<=6)(h:J0 u s ts)(hk:k<=s.n) :
 Ag prog 104 [s.ptr,.int .i64 most] u (s.M k) fun v u' m'=>∃ (T:List (List UInt8×Nat)) (R:List Br) (F:List Al) (lab:Int) (k':Nat),H5 u' v T R F lab/\Bl u' T R F lab/\T.length<=6/\k'<=s.n/\m'=s.M k'/\TOK T/\T.length<=most/\F.length<=most:=by
 refine Ag.o func104<|G.A call181 (Anm (lo:=1) (hi:=3) (n:=3) h hk oV oV oV oV oV) ?_;rintro v1 u1 m1 l1 ⟨r,k1,rfl,hr,dy,rfl⟩ _;rw[By];obtain⟨n,hn⟩:∃ n:Nat,(1:Int)+(r:Int)=(n:Int):=⟨1+r,oV⟩;rw[hn];refine G.l (ι:=Nat×Nat×List (List UInt8×Nat)×(Option Addr×Nat)×List Br×(Option Addr×Nat)) (fun i=>[(0,.v s.ptr),(1,iV most),(4,.p 0 0),(5,.p 1001 0),(6,iV n),(7,iV i.1)])
  (fun i=>[(0,⟨30,[sV none 0 0,sV none 0 0,sV none 0 0,iV 0]⟩),(1001,⟨30,[sV i.2.2.2.1.1 i.2.2.1.length i.2.2.2.1.2,sV i.2.2.2.2.2.1 i.2.2.2.2.1.length i.2.2.2.2.2.2,sV none 0 0,iV (-1)]⟩)])
  (fun i u' m'=>i.1<=n/\i.2.1<=s.n/\TOM most i.2.2.1/\ROK u' i.2.2.1.length i.2.2.2.2.1/\i.2.2.2.2.1.length=i.1/\(0<i.1->0<i.2.2.1.length)/\Bag m' [s.arr i.2.1,Acx i.2.2.2.1.1 i.2.2.2.1.2 i.2.2.1,Zn i.2.2.2.2.2.1 i.2.2.2.2.2.2 i.2.2.2.2.1])
  (fun i=>n-i.1) (0,k1,[],(none,0),[],(none,0))
  ⟨A1t _,dy,TOM.nil most,ROK.nil,rfl,fun h=>absurd h mV,s.bag0 k1 ⟨PH.mt,Af.nil _ _ _,PH.mt,Af.nil _ _ _,trivial⟩⟩ ?_
 rintro J ⟨i,k2,T,⟨ta,tc⟩,R,⟨ra,rc⟩⟩ hJ u2 m2 l2 ⟨hi,ci,hT,hR,cx,h0,b5⟩;simp only at hi ci hT hR cx h0 b5 hJ;subst cx;have bx:=l1.trans l2;have dw:=hT.le;by_cases f4:R.length<n
 ·refine G.lT R.length n<|G.l (ι:=Nat×Nat×List Nat×(Option Addr×Nat)) (fun i=>[(0,.v s.ptr),(1,iV most),(4,.p 0 0),(5,.p 1001 0),(6,iV n),(7,iV R.length),(8,sV i.2.2.2.1 i.2.2.1.length i.2.2.2.2),(23,iV T.length),(24,iV i.1)])
   (fun i=>[(0,⟨30,[sV none 0 0,sV none 0 0,sV none 0 0,iV 0]⟩),(1001,⟨30,[sV ta T.length tc,sV ra R.length rc,sV none 0 0,iV (-1)]⟩)])
   (fun i u' m'=>i.1<=T.length/\i.2.1<=s.n/\LOK i.2.2.1 i.1/\Bag m' [s.arr i.2.1,Agt i.2.2.2.1 i.2.2.2.2 i.2.2.1,Acx ta tc T,Zn ra rc R])
   (fun i=>T.length-i.1) (0,k2,[],(none,0))
   ⟨A1t _,ci,LOK.nil,by obtain⟨m0,e7,hL⟩:=b5;exact⟨m0,e7,m0,Af.nil _ _ _,hL⟩⟩ ?_
  rintro J1 ⟨j,k3,l,⟨la,lc⟩⟩ Q u3 m3 l3 ⟨hj,a1,hl,ah⟩;simp only at hj a1 hl ah Q;have f3:=hl.len;by_cases f0:j<T.length
  ·refine G.lT j T.length ?_;obtain⟨n4,aj,cg⟩:=ah;obtain⟨rfl,b6⟩:=Src.split aj;refine G.D call14 (Src.apart b6) (I4 (n:=3) (h.mono (bx.trans l3)) a1 oV oV) ?_;rintro v4 u4 m4 l4 ⟨r4,k4,rfl,e4,bq,rfl⟩ _;have m:Bag _ [s.arr k4,Agt la lc l,Acx ta tc T,Zn ra rc R]:=⟨_,Src.at b6,cg⟩;by_cases d6:r4=0
   ·refine G.eT r4 0<|G.B 3 1 8 (.int .i64 0) [.int .i64 j] (Av [j]) ?_;intro g6 u6 l6 e6;obtain⟨cp,be,ai⟩:=m.focus 1 rfl;rw[Aca]at be;refine G.append 3 1 8 (.int .i64 0) cp (Ai l) [.int .i64 j] (.slice la l.length lc) g6 0 1 1 kV rfl rfl oV be e6 (Av [j]) rfl oV (by simp[Ai];omega) (by simp[Ai];omega) ?_;intro w6 cq a9;rw[Di]at a9;obtain⟨a6,c6,rfl⟩:=a9.shape;rw[Ak]at a9⊢;have V:=ai (Agt a6 c6 (l++[j])) cq a9;simp only[A2j,A2p]at V;exact G.i j<|G.b (Q (j+1,k4,l++[j],(a6,c6)) _ _ _ cV ((l3.trans l4).trans l6) ⟨dV,bq,hl.snoc,V⟩ dV)
   exact G.eF r4 0<|G.i j<|G.b (Q (j+1,k4,l,(la,lc)) _ _ _ cV (l3.trans l4) ⟨dV,bq,hl.up,m⟩ dV)
  obtain rfl:j=T.length:=oV;refine G.lF T.length T.length ?_;obtain⟨n4,aj,cg⟩:=ah;obtain⟨rfl,b6⟩:=Src.split aj;refine G.D call14 (Src.apart b6) (I4 (n:=3) (h.mono (bx.trans l3)) a1 oV oV) ?_;rintro v4 u4 m4 l4 ⟨r4,k4,rfl,e4,bq,rfl⟩ _;have m:Bag _ [s.arr k4,Agt la lc l,Acx ta tc T,Zn ra rc R]:=⟨_,Src.at b6,cg⟩;refine G.l (ι:=Int×Nat×List Nat×(Option Addr×Nat)×List (List UInt8×Nat)×(Option Addr×Nat)) (fun i=>[(0,.v s.ptr),(1,iV most),(4,.p 0 0),(5,.p 1001 0),(6,iV n),(7,iV R.length),(8,sV i.2.2.2.1.1 i.2.2.1.length i.2.2.2.1.2),(10,iV i.1)])
   (fun i=>[(0,⟨30,[sV none 0 0,sV none 0 0,sV none 0 0,iV 0]⟩),(1001,⟨30,[sV i.2.2.2.2.2.1 i.2.2.2.2.1.length i.2.2.2.2.2.2,sV ra R.length rc,sV none 0 0,iV (-1)]⟩)])
   (fun i u' m'=>i.2.1<=s.n/\(i.2.2.1 = []->0<=i.1)/\-1<=i.1/\i.1<=2/\T.length<=i.2.2.2.2.1.length/\TOM most i.2.2.2.2.1/\LOK i.2.2.1 i.2.2.2.2.1.length/\(∀ a,T.length<=a->a<i.2.2.2.2.1.length->a∈i.2.2.1)/\Bag m' [s.arr i.2.1,Agt i.2.2.2.1.1 i.2.2.2.1.2 i.2.2.1,Acx i.2.2.2.2.2.1 i.2.2.2.2.2.2 i.2.2.2.2.1,Zn ra rc R])
   (fun i=>(i.1+1).toNat) ((r4:Int),k4,l,(la,lc),T,(ta,tc))
   ⟨bq,fun _=>dV,dV,dV,A08 _,hT,hl,fun a h1 h2=>by dsimp only at h2;omega,m⟩ ?_
  rintro J2 ⟨z,k5,E,⟨Y,Z⟩,C,⟨bn,bo⟩⟩ cv u5 m5 co ⟨a2,dc,e8,e9,ag,b4,b9,a3,t⟩;simp only at a2 dc e8 e9 ag b4 b9 a3 t cv;have ex:=b4.le;have ey:=b9.len;have dd:=((bx.trans l3).trans l4).trans co;have bz:=(l3.trans l4).trans co;refine dite (0<z) (fun hz=>?zp) (fun hz=>?zn)
  case' zp =>
   refine G.gT z 0 ?_;refine dite (C.length<most) (fun bb=>?g1) (fun bb=>?l1)
  case' g1=>refine G.lT C.length most ?_
  case' l1 =>
   refine G.lF C.length most ?_;refine dite (E = []) (fun I=>?e1) (fun I=>?n1)
  case' n1=>have d5:0<C.length:=oV
  case' zn =>
   refine G.gF z 0 ?_;refine dite (E = []) (fun I=>?y2) (fun I=>?n2)
  case' y2 =>
   have f6:=dc I;have d3:E.length=0:=by rw[I];rfl
   refine G.eT E.length 0 ?_;refine dite (C.length<most) (fun bb=>?g2) (fun bb=>?e2)
  case' g2=>refine G.lT C.length most ?_
  case' e2=>refine G.lF C.length most ?_
  case' n2 =>
   have d3:0<E.length:=A4f.2 I;refine G.eF E.length 0 ?_;have d5:0<C.length:=by
    obtain⟨x,hx⟩:=List.exists_mem_of_ne_nil _ I;have:=b9.lt x hx;omega
  case g1|g2 =>
   refine G.B 3 1 8 (.int .i64 0) [.int .i64 C.length] (Av [C.length]) ?_;intro dq f9 cn dl;obtain⟨df,c2,bs⟩:=t.focus 1 rfl;rw[Aca]at c2;refine G.append 3 1 8 (.int .i64 0) df (Ai E) [.int .i64 C.length] (.slice Y E.length Z) dq 0 1 1 kV rfl rfl oV c2 dl (Av [C.length]) rfl oV (by simp[Ai];omega) (by simp[Ai];omega) ?_;intro ff dh aq;rw[Di]at aq;obtain⟨c7,c8,rfl⟩:=aq.shape;rw[Ak]at aq⊢;have ao:=bs (Agt c7 c8 (E++[C.length])) dh aq;simp only[A2j,A2p]at ao;refine G.both [0,1,2,3,4,6] 5 7 [8,9,10,11,12,13] kV ?_ ?_;refine G.c call182 (S0 (p:=[97]) (i:=C.length) oV mV) ?_;rintro er ej aw rfl;refine G.B 3 1 8 (.int .i64 0) [.int .i64 1,.int .i64 2,.int .i64 2,.int .i64 3] (N7 [1,2,2,3]) ?_;intro dr ek bh cb;have c4:=(((dd).trans cn).trans aw).trans bh;have c5:=aw.trans bh;have c0:=cb.listP
   rotate_left
   refine G.B 3 1 8 (.int .i64 0) [.int .i64 1,.int .i64 2,.int .i64 2,.int .i64 3] (N7 [1,2,2,3]) ?_;intro dr ek bh cb;refine G.c call182 (S0 (p:=[97]) (i:=C.length) oV mV) ?_;rintro er ej aw rfl;have c4:=(((dd).trans cn).trans bh).trans aw;have c5:=bh.trans aw;have c0:=cb.listP.mono aw;all_goals
    obtain⟨dj,bw,cw⟩:=ao;obtain⟨rfl,c1⟩:=Src.split bw;refine G.D call88 (Src.apart c1) (Aer (L:=[1,2,2,3]) (h.mono c4) a2 c0 mV mV) ?_;rintro fe fb f7 eb ⟨kd,br,ck,rfl,cz,rfl⟩ _;obtain⟨kn,rfl,d1,d2⟩:=Ay7 br;have bp:Bag (dj.or (s.M ck)) [s.arr ck,Agt c7 c8 (E++[C.length]),Acx bn bo C,Zn ra rc R]:=⟨dj,Src.at c1,cw⟩;refine G.B 96 2 24 (.agg #[.string (mkS []),.int .i64 0]) [.agg #[.string (mkS (nmA C.length)),.int .i64 kn]] (Ak2 (nmA C.length,kn)) ?_;intro ds fd ec dm;obtain⟨dg,c3,bt⟩:=bp.focus 2 rfl;rw[Ath]at c3;refine G.append 96 2 24 (.agg #[.string (mkS []),.int .i64 0]) dg (C.map D9) [.agg #[.string (mkS (nmA C.length)),.int .i64 kn]] (.slice bn C.length bo) ds 0 1 1 kV rfl rfl oV c3 dm (Ak2 (nmA C.length,kn)) rfl oV (by simp[Ai];omega) (by simp[Ai];omega) ?_;intro fg di ar;rw[show C.map D9++[.agg #[.string (mkS (nmA C.length)),.int .i64 kn]]=(C++[(nmA C.length,kn)]).map D9 by rw[A1i];rfl]at ar;obtain⟨cs,ct,rfl⟩:=ar.shape;rw[A03]at ar⊢;have ap:=bt (Acx cs ct (C++[(nmA C.length,kn)])) di ar;simp only[A2j,A2p]at ap;refine G.s z 1 (z-1) ?_;exact G.b (cv (z-1,ck,E++[C.length],(c7,c8),C++[(nmA C.length,kn)],(cs,ct)) _ _ _ cV ((((co.trans cn).trans c5).trans eb).trans ec) ⟨cz,fun e=>by simp at e,dV,dV,by dsimp only;rw[A1d];omega,b4.snocm d1 d2 oV e0,by dsimp only;rw[A1d];exact b9.snoc,fun a h1 h2=>by
     dsimp only at h2⊢;rw[A1d,A20]at h2;rcases A2e a C.length with e|e
     ·exact A24 _ (a3 a h1 e)
     exact A6v _ (A12.2 oV),ap⟩ dV)
  case e1|e2 =>
   subst I;refine G.eT' (([]:List Nat).length:Int) 0 mV<|G.B 3 1 8 (.int .i64 0) [.int .i64 (0:Nat)] (Av [0]) ?_;intro a0 dk bi dp;have b8:Ac dk (.slice (some ⟨a0,0,none⟩) 1 1) 1 (Ai [0]):=dp.listP;have U:=Atc t;refine G.c call182 (S0 (p:=[114]) (i:=R.length) oV mV) ?_;rintro et em al rfl;refine G.B 98 2 40 (.agg #[.string (mkS []),.slice none 0 0]) [.agg #[.string (mkS (nmR R.length)),.slice (some ⟨a0,0,none⟩) 1 1]] (Sh (nmR R.length,[0],((some (⟨a0,0,none⟩:Addr)),1))) ?_;intro ce cr am cc;obtain⟨bk,af,a8⟩:=U.focus 2 rfl;rw[Aj5]at af;refine G.append 98 2 40 (.agg #[.string (mkS []),.slice none 0 0]) bk (R.map Hs) [.agg #[.string (mkS (nmR R.length)),.slice (some ⟨a0,0,none⟩) 1 1]] (.slice ra R.length rc) ce 0 1 1 kV rfl rfl oV af cc (Sh (nmR R.length,[0],((some (⟨a0,0,none⟩:Addr)),1))) rfl oV (by simp[Ai];omega) (by simp[Ai];omega) ?_;intro ew bm P;rw[show R.map Hs++[.agg #[.string (mkS (nmR R.length)),.slice (some ⟨a0,0,none⟩) 1 1]]=(R++[(nmR R.length,[0],((some (⟨a0,0,none⟩:Addr)),1))]).map Hs by rw[A1i];rfl]at P;obtain⟨az,b1,rfl⟩:=P.shape;rw[A03]at P⊢;have N:=a8 (Zn az b1 (R++[(nmR R.length,[0],((some (⟨a0,0,none⟩:Addr)),1))])) bm P;simp only[A2j,A2p]at N;refine G.p R.length 1 (R.length+1:Nat) ?_;have b3:ROK cr C.length (R++[(nmR R.length,[0],((some (⟨a0,0,none⟩:Addr)),1))]):=by
    refine (hR.mono (bz |>.trans bi |>.trans al |>.trans am)).snoc ag (LOK.zero oV) mV (fun a h1 h2=>?_) (b8.mono (al.trans am));exact absurd (a3 a h1 h2) mV
   exact G.b (hJ (R.length+1,k5,C,(bn,bo),R++[(nmR R.length,[0],((some (⟨a0,0,none⟩:Addr)),1))],(az,b1)) _ _ _ cV (l2.trans (bz |>.trans bi |>.trans al |>.trans am)) ⟨dV,a2,b4,b3,mV,fun _=>dV,N⟩ dV)
  case n1|n2 =>
   have f2:0<E.length:=A4f.2 I;refine G.eF E.length 0 ?_;obtain⟨mL,db,cj⟩:=t.take 1 rfl;have U:Bag mL [s.arr k5,Acx bn bo C,Zn ra rc R]:=cj;rw[Aca]at db;refine G.give mL (Ai E) (.slice Y E.length Z) kV db (fun g=>?_) ?_
   ·obtain⟨ef,d9,_⟩:=U;obtain⟨rfl,_⟩:=Src.split d9;exact s.h0or k k5 ef g
   intro dk bi b8;refine G.c call182 (S0 (p:=[114]) (i:=R.length) oV mV) ?_;rintro et em al rfl;refine G.B 98 2 40 (.agg #[.string (mkS []),.slice none 0 0]) [.agg #[.string (mkS (nmR R.length)),.slice Y E.length Z]] (Sh (nmR R.length,E,(Y,Z))) ?_;intro ce cr am cc;obtain⟨bk,af,a8⟩:=U.focus 2 rfl;rw[Aj5]at af;refine G.append 98 2 40 (.agg #[.string (mkS []),.slice none 0 0]) bk (R.map Hs) [.agg #[.string (mkS (nmR R.length)),.slice Y E.length Z]] (.slice ra R.length rc) ce 0 1 1 kV rfl rfl oV af cc (Sh (nmR R.length,E,(Y,Z))) rfl oV (by simp[Ai];omega) (by simp[Ai];omega) ?_;intro ew bm P;rw[show R.map Hs++[.agg #[.string (mkS (nmR R.length)),.slice Y E.length Z]]=(R++[(nmR R.length,E,(Y,Z))]).map Hs by rw[A1i];rfl]at P;obtain⟨az,b1,rfl⟩:=P.shape;rw[A03]at P⊢;have N:=a8 (Zn az b1 (R++[(nmR R.length,E,(Y,Z))])) bm P;simp only[A2j,A2p]at N;refine G.p R.length 1 (R.length+1:Nat) ?_;have b3:ROK cr C.length (R++[(nmR R.length,E,(Y,Z))]):=by
    exact (hR.mono (bz |>.trans bi |>.trans al |>.trans am)).snoc ag b9 I a3 (b8.mono (al.trans am))
   exact G.b (hJ (R.length+1,k5,C,(bn,bo),R++[(nmR R.length,E,(Y,Z))],(az,b1)) _ _ _ cV (l2.trans (bz |>.trans bi |>.trans al |>.trans am)) ⟨dV,a2,b4,b3,mV,fun _=>dV,N⟩ dV)
 obtain rfl:R.length=n:=oV;refine G.lF R.length R.length ?_;have ch:=h0 oV;obtain⟨n0,da,hL⟩:=b5;obtain⟨rfl,dx⟩:=Src.split da;refine G.giveP (ma:=n0) (sm:=s.M k2) kV rfl (Src.apart dx) (s.h0 k k2) ?_;intro u3 l3 d4;have cu:Ac u3 (.slice ta T.length tc) 2 (T.map D9):=hL.list d4 0 rfl;have dv:Ac u3 (.slice ra R.length rc) 2 (R.map Hs):=hL.list d4 1 rfl;refine G.l (ι:=Nat×Nat×List Al×(Option Addr×Nat)×Int) (fun i=>[(0,.v s.ptr),(4,.p 0 0),(5,.p 1001 0),(86,sV ta T.length tc),(87,iV T.length),(88,iV i.1)])
  (fun i=>[(0,⟨30,[sV none 0 0,sV none 0 0,sV none 0 0,iV 0]⟩),(1001,⟨30,[sV ta T.length tc,sV ra R.length rc,sV i.2.2.2.1.1 i.2.2.1.length i.2.2.2.1.2,iV i.2.2.2.2]⟩)])
  (fun i u' m'=>i.1<=T.length/\i.2.1<=s.n/\FOK T i.2.2.1 i.2.2.2.2 i.1/\Bag m' [s.arr i.2.1,W3 i.2.2.2.1.1 i.2.2.2.1.2 i.2.2.1])
  (fun i=>T.length-i.1) (0,k2,[],(none,0),-1)
  ⟨A1t _,ci,FOK.nil,s.bag0 k2 ⟨PH.mt,Af.nil _ _ _,trivial⟩⟩ ?_
 rintro J1 ⟨a,k3,F,⟨fa,fc⟩,lab⟩ Q u4 m4 l4 ⟨ha,a1,hF,m⟩;simp only at ha a1 hF m Q;have ax:=(bx.trans l3).trans l4;have f1:=hF.len;by_cases bd:a<T.length
 ·refine G.lT a T.length ?_;have av:T[a]?=some T[a]:=A01 bd;have br:=hT.kd _ (A09 bd);obtain⟨ba,oa,rfl,ea⟩:=Ac.at' (cu.mono l4) (j:=a) (e:=D9 T[a]) (by simp[av]);generalize T[a]=x at av br ea;obtain⟨nm,kd⟩:=x;simp only at br;refine G.a ba oa T.length tc a 2 bd<|G.lU (some 2) ba (oa+a*2) (.agg #[.string (mkS nm),.int .i64 kd]) ea ?_;by_cases cy:kd=2
  ·subst cy;refine G.eT (2:Nat) 2 ?_;by_cases ez:lab<0
   ·refine G.lT lab 0 ?_;obtain⟨n5,X,au⟩:=m;obtain⟨rfl,ac⟩:=Src.split X;refine G.D call14 (Src.apart ac) (I4 (n:=2) (h.mono ax) a1 oV oV) ?_;rintro v5 u5 m5 E ⟨r5,k5,rfl,e5,a2,rfl⟩ _;have t:Bag _ [s.arr k5,W3 fa fc F]:=⟨_,Src.at ac,au⟩;by_cases d6:r5=0
    ·exact G.eT r5 0<|G.i a<|G.b (Q (a+1,k5,F,(fa,fc),(a:Int)) _ _ _ cV (l4.trans E) ⟨dV,a2,hF.lab av,t⟩ dV)
    refine G.eF r5 0<|G.eT (2:Nat) 2 ?_;have W:=ac;have aa:=au;refine G.D call14 (Src.apart W) (I4 (n:=4) (h.mono (ax.trans E)) a2 oV oV) ?_;rintro eo eg ed ak ⟨an,bf,rfl,d7,ad,rfl⟩ _;have a4:Bag _ [s.arr bf,W3 fa fc F]:=⟨_,Src.at W,aa⟩;by_cases e3:0<an
    ·refine G.gT an 0 ?_;have ab:=W;have b2:=aa;refine G.D call14 (Src.apart ab) (I4 (n:=2) (h.mono ((ax.trans E).trans ak)) ad oV oV) ?_;rintro ep eh ee cl ⟨H,bg,rfl,d8,b7,rfl⟩ _;have a5:Bag _ [s.arr bg,W3 fa fc F]:=⟨_,Src.at ab,b2⟩;refine G.B 100 3 24 (.agg #[.int .i64 0,.int .i64 0,.int .i64 0]) [.agg #[.int .i64 a,.int .i64 (1:Nat),.int .i64 H]] (Kg (a,1,H)) ?_;intro cd ei cm ca;obtain⟨bj,ae,a7⟩:=a5.focus 1 rfl;rw[Acb]at ae;refine G.append 100 3 24 (.agg #[.int .i64 0,.int .i64 0,.int .i64 0]) bj (F.map Cm) [.agg #[.int .i64 a,.int .i64 (1:Nat),.int .i64 H]] (.slice fa F.length fc) cd 0 1 1 kV rfl rfl oV ae ca (Kg (a,1,H)) rfl oV (by simp[Ai];omega) (by simp[Ai];omega) ?_;intro eu bl O;rw[show F.map Cm++[.agg #[.int .i64 a,.int .i64 (1:Nat),.int .i64 H]]=(F++[(a,1,H)]).map Cm by rw[A1i];rfl]at O;obtain⟨ay,b0,rfl⟩:=O.shape;rw[A03]at O⊢;have K:=a7 (W3 ay b0 (F++[(a,1,H)])) bl O;simp only[A2j,A2p]at K;exact G.i a<|G.b (Q (a+1,bg,F++[(a,1,H)],(ay,b0),lab) _ _ _ cV ((((l4.trans E).trans ak).trans cl).trans cm) ⟨dV,b7,hF.put av (.inl ⟨rfl,rfl,oV⟩),K⟩ dV)
    exact G.gF an 0<|G.eF (2:Nat) 3<|G.i a<|G.b (Q (a+1,bf,F,(fa,fc),lab) _ _ _ cV ((l4.trans E).trans ak) ⟨dV,ad,hF.skip,a4⟩ dV)
   refine G.lF lab 0<|G.eT (2:Nat) 2 ?_;obtain⟨f8,bu,aa⟩:=m;obtain⟨rfl,W⟩:=Src.split bu;refine G.D call14 (Src.apart W) (I4 (n:=4) (h.mono ax) a1 oV oV) ?_;rintro eo eg ed ak ⟨an,bf,rfl,d7,ad,rfl⟩ _;have a4:Bag _ [s.arr bf,W3 fa fc F]:=⟨_,Src.at W,aa⟩;by_cases e3:0<an
   ·refine G.gT an 0 ?_;have ab:=W;have b2:=aa;refine G.D call14 (Src.apart ab) (I4 (n:=2) (h.mono (ax.trans ak)) ad oV oV) ?_;rintro ep eh ee cl ⟨H,bg,rfl,d8,b7,rfl⟩ _;have a5:Bag _ [s.arr bg,W3 fa fc F]:=⟨_,Src.at ab,b2⟩;refine G.B 100 3 24 (.agg #[.int .i64 0,.int .i64 0,.int .i64 0]) [.agg #[.int .i64 a,.int .i64 (1:Nat),.int .i64 H]] (Kg (a,1,H)) ?_;intro cd ei cm ca;obtain⟨bj,ae,a7⟩:=a5.focus 1 rfl;rw[Acb]at ae;refine G.append 100 3 24 (.agg #[.int .i64 0,.int .i64 0,.int .i64 0]) bj (F.map Cm) [.agg #[.int .i64 a,.int .i64 (1:Nat),.int .i64 H]] (.slice fa F.length fc) cd 0 1 1 kV rfl rfl oV ae ca (Kg (a,1,H)) rfl oV (by simp[Ai];omega) (by simp[Ai];omega) ?_;intro eu bl O;rw[show F.map Cm++[.agg #[.int .i64 a,.int .i64 (1:Nat),.int .i64 H]]=(F++[(a,1,H)]).map Cm by rw[A1i];rfl]at O;obtain⟨ay,b0,rfl⟩:=O.shape;rw[A03]at O⊢;have K:=a7 (W3 ay b0 (F++[(a,1,H)])) bl O;simp only[A2j,A2p]at K;exact G.i a<|G.b (Q (a+1,bg,F++[(a,1,H)],(ay,b0),lab) _ _ _ cV (((l4.trans ak).trans cl).trans cm) ⟨dV,b7,hF.put av (.inl ⟨rfl,rfl,oV⟩),K⟩ dV)
   exact G.gF an 0<|G.eF (2:Nat) 3<|G.i a<|G.b (Q (a+1,bf,F,(fa,fc),lab) _ _ _ cV (l4.trans ak) ⟨dV,ad,hF.skip,a4⟩ dV)
  refine G.eF kd 2<|G.eF kd 2 ?_;by_cases d0:kd=3
  ·subst d0;refine G.eT (3:Nat) 3 ?_;obtain⟨n5,X,au⟩:=m;obtain⟨rfl,ac⟩:=Src.split X;refine G.D call14 (Src.apart ac) (I4 (n:=4) (h.mono ax) a1 oV oV) ?_;rintro v5 u5 m5 E ⟨r5,k5,rfl,e5,a2,rfl⟩ _;have t:Bag _ [s.arr k5,W3 fa fc F]:=⟨_,Src.at ac,au⟩;by_cases d6:0<r5
   ·refine G.gT r5 0<|G.B 100 3 24 (.agg #[.int .i64 0,.int .i64 0,.int .i64 0]) [.agg #[.int .i64 a,.int .i64 (2:Nat),.int .i64 (0:Nat)]] (Kg (a,2,0)) ?_;intro g6 u6 l6 e6;obtain⟨cp,be,ai⟩:=t.focus 1 rfl;rw[Acb]at be;refine G.append 100 3 24 (.agg #[.int .i64 0,.int .i64 0,.int .i64 0]) cp (F.map Cm) [.agg #[.int .i64 a,.int .i64 (2:Nat),.int .i64 (0:Nat)]] (.slice fa F.length fc) g6 0 1 1 kV rfl rfl oV be e6 (Kg (a,2,0)) rfl oV (by simp[Ai];omega) (by simp[Ai];omega) ?_;intro w6 cq a9;rw[show F.map Cm++[.agg #[.int .i64 a,.int .i64 (2:Nat),.int .i64 (0:Nat)]]=(F++[(a,2,0)]).map Cm by rw[A1i];rfl]at a9;obtain⟨a6,c6,rfl⟩:=a9.shape;rw[A03]at a9⊢;have V:=ai (W3 a6 c6 (F++[(a,2,0)])) cq a9;simp only[A2j,A2p]at V;exact G.i a<|G.b (Q (a+1,k5,F++[(a,2,0)],(a6,c6),lab) _ _ _ cV ((l4.trans E).trans l6) ⟨dV,a2,hF.put av (.inr ⟨rfl,rfl,rfl⟩),V⟩ dV)
   exact G.gF r5 0<|G.i a<|G.b (Q (a+1,k5,F,(fa,fc),lab) _ _ _ cV (l4.trans E) ⟨dV,a2,hF.skip,t⟩ dV)
  exact G.eF kd 3<|G.i a<|G.b (Q (a+1,k3,F,(fa,fc),lab) _ _ _ cV l4 ⟨dV,a1,hF.skip,m⟩ dV)
 obtain rfl:a=T.length:=oV;refine G.lF T.length T.length ?_;obtain⟨n5,X,au⟩:=m;obtain⟨rfl,ac⟩:=Src.split X;refine G.giveP (ma:=n5) (sm:=s.M k3) kV rfl (Src.apart ac) (s.h0 k k3) ?_;intro u5 E dz;have du:Ac u5 (.slice fa F.length fc) 3 (F.map Cm):=au.list dz 0 rfl;exact G.gF F.length 8<|G.r (.agg #[.slice ta T.length tc,.slice ra R.length rc,.slice fa F.length fc,.int .i64 lab]) ⟨T,R,F,lab,k3,⟨_,_,_,_,_,_,rfl,cu.mono (l4.trans E),dv.mono (l4.trans E),du⟩,Aw6 hT.toTOK (hR.mono ((l3.trans l4).trans E)) hF ch oV oV,dw,a1,rfl,hT.toTOK,hT.lem,A04 hF.len hT.lem⟩
abbrev Dm:Type:=List (List UInt8)×Nat×(Option Addr×Nat)
def F3 (y:Dm):Value:=.agg #[.slice y.2.2.1 y.1.length y.2.2.2,.int .i64 y.2.1]
def Yi (x:Dm):A9 2 [F3 x]:=by
 intro e g;simp at g;subst g;exact⟨rfl,fun y h=>by simp[F3,Value.cells]at h;rcases h with rfl|rfl<;>rfl⟩
def Avm (a:Option Addr)(c:Nat)(L:List Dm):Arr:=⟨.slice a L.length c,53,2,L.map F3⟩
def Avq {a:Option Addr}{c:Nat}{L:List Dm}{m0 m:PH}:(Avm a c L).At m0 m=Af m0 m (.slice a L.length c) 53 2 (L.map F3):=rfl
def WOK (u:PH)(T:List (List UInt8×Nat))(L:List Dm):Prop:=∀ y∈L,Ac u (.slice y.2.2.1 y.1.length y.2.2.2) 1 (y.1.map nmV)/\Bw T y.1/\1<=y.2.1/\y.2.1<=7
def WOK.mono {u g:PH}{T:List (List UInt8×Nat)}{L:List Dm}(h:WOK u T L)(j:PH.le u g):WOK g T L:=fun y e=>⟨(h y e).1.mono j,(h y e).2⟩
def W9 (T:List (List UInt8×Nat))(L:List Dm):Prop:=∀ y∈L,∀ (i:Nat) (x:List UInt8×Nat) (t:List UInt8),T[i]?=some x->y.1[i]?=some t->Zi x.2 t
def Ajh {u:PH}{s:Src}{ts:List Int}{k most:Nat}{v:Value}{T:List (List UInt8×Nat)}{R:List Br}{F:List Al}{lab:Int}(h:J0 u s ts)(hk:k<=s.n)(hX:H5 u v T R F lab)(ok:Bl u T R F lab)(hm:most<=100) :
 Ag prog 35 [s.ptr,v,.int .i64 most] u (s.M k) fun r W m'=>∃ (L:List Dm) (k':Nat),Ac W r 2 (L.map F3)/\L.length<=most/\WOK W T L/\W9 T L/\k'<=s.n/\m'=s.M k':=by
 obtain⟨xa,xc,xb,xd,xe,xf,rfl,a0,a9,a8⟩:=id hX;have t2:=ok.t2;refine Ag.o func35<|G.i most<|G.A call14 (I4 (n:=most+1) h hk oV oV) ?_;rintro v1 u1 m1 l1 ⟨r,k1,rfl,hr,a1,rfl⟩ _;rw[By];refine G.l (ι:=Nat×Nat×List Dm×(Option Addr×Nat)) (fun i=>[(0,.v s.ptr),(4,.p 0 0),(7,sV i.2.2.2.1 i.2.2.1.length i.2.2.2.2),(8,iV i.1)])
  (fun _=>[(0,⟨30,[sV xa T.length xc,sV xb R.length xd,sV xe F.length xf,iV lab]⟩)])
  (fun i W m'=>i.1+i.2.2.1.length=r/\i.2.1<=s.n/\WOK W T i.2.2.1/\W9 T i.2.2.1/\Bag m' [s.arr i.2.1,Avm i.2.2.2.1 i.2.2.2.2 i.2.2.1])
  (fun i=>i.1) (r,k1,[],(none,0))
  ⟨rfl,a1,fun y e=>by simp at e,fun y e=>by simp at e,s.bag0 k1 ⟨PH.mt,Af.nil _ _ _,trivial⟩⟩ ?_
 rintro J ⟨i,k2,L,⟨na,nc⟩⟩ hJ u2 m2 l2 ⟨hi,K,hW,X,m⟩;simp only at hi K hW X m hJ;have N:=l1.trans l2;obtain⟨m0,Q,hL⟩:=m;obtain⟨rfl,g⟩:=Src.split Q;by_cases aa:0<i
 ·refine G.gT i 0<|G.D call87 (Src.apart g) (Ami (w:=.slice xb R.length xd) (x:=.slice xe F.length xf) (y:=.int .i64 lab) (h.mono N) K (a0.mono N) oV ok.att.kind ⟨_,_,_,rfl⟩ ⟨_,_,_,rfl⟩ ⟨_,rfl⟩) ?_;rintro v3 u3 m3 V ⟨ss,k3,Y,Z,O,a2,rfl⟩ _;obtain⟨C,E,rfl⟩:=Y.opn;rw[A03]at Y⊢;refine G.buildU 3 1 8 (.int .i64 0) (Fc [1,1,2,7]) kV (N7 _) rfl oV (by simp[Fc]) (by simp[Fc]) ?_;intro g4 u4 l4 e4;refine G.D call88 (Src.apart g) (Aer (L:=[1,1,2,7]) (h.mono ((N.trans V).trans l4)) a2 e4.listP mV mV) ?_;rintro v5 u5 m5 l5 ⟨z,hz,k5,rfl,a3,rfl⟩ _;obtain⟨w,rfl,a5,a6⟩:∃ w:Nat,z=(w:Int)/\1<=w/\w<=7:=by
   simp at hz;rcases hz with rfl|rfl|rfl
   ·exact⟨1,rfl,oV,oV⟩
   ·exact⟨2,rfl,oV,oV⟩
   exact⟨7,rfl,oV,oV⟩
  refine G.B 53 2 32 (.agg #[.slice none 0 0,.int .i64 0]) [.agg #[.slice C ss.length E,.int .i64 w]] (Yi (ss,w,C,E)) ?_;intro g6 u6 l6 e6;have H:Bag (m0.or (s.M k5)) [s.arr k5,Avm na nc L]:=⟨m0,Src.at g,hL⟩;obtain⟨mm,U,P⟩:=H.focus 1 rfl;rw[Avq]at U;refine G.k 53 2 32 (.agg #[.slice none 0 0,.int .i64 0]) mm (L.map F3) [F3 (ss,w,C,E)] (.slice na L.length nc) g6 0 1 1 U e6 (Yi (ss,w,C,E)) ?_;intro v7 m7 j;rw[show L.map F3++[F3 (ss,w,C,E)]=(L++[(ss,w,C,E)]).map F3 by rw[A1i];rfl]at j;obtain⟨a7,c7,rfl⟩:=j.shape;rw[A03]at j⊢;have I:=P (Avm a7 c7 (L++[(ss,w,C,E)])) m7 j;have lx:=((V.trans l4).trans l5).trans l6;refine G.s i 1 (i-1:Nat)<|G.b (hJ (i-1,k5,L++[(ss,w,C,E)],(a7,c7)) _ _ _ cV (l2.trans lx) ⟨by dsimp only;simp;omega,a3,?_,?_,I⟩ dV)
  ·intro y e;rcases A1h.1 e with e|e
   ·exact hW.mono lx y e
   simp only[A12]at e;subst e;exact⟨Y.mono ((l4.trans l5).trans l6),⟨Z,fun i x t h1 h2=>(O i x t h1 h2).ok⟩,a5,a6⟩
  intro y e;rcases A1h.1 e with e|e
  ·exact X y e
  simp only[A12]at e;subst e;exact O
 obtain rfl:i=0:=oV;refine G.gF (0:Nat) 0<|G.giveP (ma:=m0) (sm:=s.M k2) kV rfl (Src.apart g) (s.h0 k k2) ?_;intro u3 V a4;exact G.r (.slice na L.length nc) ⟨L,k2,hL.list a4 0 rfl,oV,hW.mono V,X,K,rfl⟩
section
variable {F:List Al}{R:List Br}{T:List (List UInt8×Nat)}{lab:Int}{u:PH}
def Ig {α:Type}{p:List α->Prop}(h0:p [])(h1:∀ l a,p l->p (l++[a]))(l:List α):p l:=by
 have:∀ r:List α,p r.reverse:=fun r=>by
  induction r with
  |nil=>exact h0
  |cons a r ih=>rw[List.reverse_cons];exact h1 _ _ ih
 have:=this l.reverse;rwa[List.reverse_reverse]at this
noncomputable def Cf (F:List Al)(lab:Int)(L:List Dm):CF:=L.foldl (fun C y=>C.add ((cfT F lab y.1).scale (y.2.1:Rat))) (CF.num 0)
def Eb (F:List Al)(lab:Int)(L:List Dm)(y:Dm):Cf F lab (L++[y])=(Cf F lab L).add ((cfT F lab y.1).scale (y.2.1:Rat)):=by
 unfold Cf;rw[A5w];rfl
def Auv {w:Nat}(h:w<=7):Dn 0 7 (w:Rat):=⟨(w:Int),by simp[A2r],by simpa using h⟩
def Apv {ss:List (List UInt8)}(ok:Bl u T R F lab)(g:Bw T ss):CFD (2*T.length) (1374926400^T.length) (cfT F lab ss)/\CFV (cfT F lab ss):=by
 have e:=N0 ok g;have h:(Fh F lab ss).length=T.length:=by rw[G3];exact g.len
 have:=R2 e (Fh F lab ss).length (A08 _);rw[A15,h]at this;exact this
theorem Alz (ok:Bl u T R F lab):∀ {L:List Dm},(∀ y∈L,Bw T y.1/\y.2.1<=7)->CFD (2*T.length) (L.length*(1374926400^T.length*7)) (Cf F lab L)/\CFV (Cf F lab L):=by
 intro L;induction L using Ig with
 |h0=>exact fun _=>⟨CFD.count (Dn.zero _ _),CFV.count 0⟩
 |h1 L y ih =>
  intro h;obtain⟨i1,i2⟩:=ih fun z hz=>h z (A24 _ hz);obtain⟨h1,h2⟩:=h y mV;obtain⟨c1,c2⟩:=Apv ok h1;rw[Eb];refine⟨?_,i2.add (c2.scale _)⟩;have:=i1.add (c1.scale (Auv h2));rw[A1d,A20,A16,A3i];exact this
end
section
variable {F:List Al}{T:List (List UInt8×Nat)}{lab:Int}
theorem Axf {ss:List (List UInt8)}(hF:Da T F lab)(m:Bw T ss)(e:-1<=lab)(g:∀ l:Nat,lab=(l:Int)->l<ss.length) :
 ((cfT F lab ss).c=1/\∀ p q,(cfT F lab ss).t (Ay p q)=(cfT F lab ss).s p*(cfT F lab ss).s q)\/((cfT F lab ss).c=0/\(∀ p,(cfT F lab ss).s p=0)/\∀ k,(cfT F lab ss).t k=0):=by
 cases hc:G4 F lab ss with
 |false=>right;rw[Ajl hF m e g hc];exact⟨rfl,fun _=>rfl,fun _=>rfl⟩
 |true =>
  left;have j:=Alr hF m e g hc;refine⟨j.c,fun p q=>?_⟩;rw[j.t,if_neg (To p q)];by_cases h:0<Bk p q
  ·rw[Ro h];grind
  rw[Ii h]
def Ah2 (n:Nat):(0:Rat)<=(n:Rat):=by
 have:((0:Nat):Rat)<=(n:Rat):=by exact_mod_cast A1t n
 exact this
theorem Arb (hF:Da T F lab)(h1:-1<=lab)(h2:∀ l:Nat,lab=(l:Int)->l<T.length):∀ {L:List Dm},(∀ y∈L,Bw T y.1/\y.2.1<=7)->∃ k:Nat,(Cf F lab L).c=(k:Rat)/\k<=7*L.length:=by
 intro L;induction L using Ig with
 |h0=>exact fun _=>⟨0,rfl,mV⟩
 |h1 L y ih =>
  intro h;obtain⟨k,hk,hkl⟩:=ih fun z hz=>h z (A24 _ hz);obtain⟨hy,hw⟩:=h y mV;have hlen:=hy.len;rw[Eb];show ∃ k:Nat,(Cf F lab L).c+(cfT F lab y.1).c*(y.2.1:Rat)=(k:Rat)/\_;rw[hk];rw[A1d,A20];rcases Axf hF hy h1 (fun l hl=>by have:=h2 l hl;omega) with ⟨e1,_⟩|⟨e1,_⟩
  ·exact⟨k+y.2.1,by rw[e1,Rat.natCast_add];grind,oV⟩
  ·exact⟨k,by rw[e1];grind,oV⟩
end
section
variable {a b c d:Nat}{q:Rat}
def De (a b:Nat)(q:Rat):Prop:=∃ (k:Int) (D:Nat),q*(D:Rat)=(k:Rat)/\0<D/\k.natAbs<10^a/\D<10^b
def T4 {D:Nat}(h:0<D):(D:Rat)≠0:=by
 intro e;have g:(D:Rat)=((0:Nat):Rat):=e;have:=A9l.1 g;omega
def De.mono (h:De a b q)(g:a<=c)(j:b<=d):De c d q:=by
 obtain⟨k,D,e,h0,m,n⟩:=h;exact⟨k,D,e,h0,A2s m (A10 oV g),A2s n (A10 oV j)⟩
def Qy {x y a b:Nat}(e:x<10^a)(g:y<10^b):x*y<10^(a+b):=by
 rw[A4k];exact Nat.mul_lt_mul'' e g
theorem De.add {a b c d f:Nat}{q r:Rat}(h:De a b q)(n:De c d r)(t:a+d<=f)(u:c+b<=f):De (f+1) (b+d) (q+r):=by
 obtain⟨k,D,e,h0,z,g⟩:=h;obtain⟨l,E,m,C,F,j⟩:=n;refine⟨k*(E:Int)+l*(D:Int),D*E,?_,A51 h0 C,?_,Qy g j⟩
 ·rw[A7d,A3c,A3c,<-e,<-m,A7e,A2r,A2r];grind
 have g1:(k*(E:Int)).natAbs<10^f:=by
  rw[A26];exact A2s (Qy z (by simpa using j)) (A10 oV t)
 have g2:(l*(D:Int)).natAbs<10^f:=by
  rw[A26];exact A2s (Qy F (by simpa using g)) (A10 oV u)
 rw[A2d];omega
theorem De.nat {a n:Nat}(h:n<10^a):De a 1 (n:Rat):=⟨(n:Int),1,by rw[A2r];show (n:Rat)*1=_;grind,oV,by simpa using h,oV⟩
theorem De.frac (h:De a b q):q.num.natAbs<10^a/\q.den<10^b:=by
 obtain⟨k,D,j,hp,m,C⟩:=h;have n:q=Rat.divInt k (D:Int):=by
  rw[A37,A2r,<-j];have:=T4 hp;grind
 obtain⟨e,g,t⟩:=O7 (y:=k) (z:=(D:Int)) oV;rw[n];constructor
 ·rw[e,A8o];exact A22 (A3u _ _) m
 have u:((Rat.divInt k (D:Int)).den:Int)<=(D:Int):=by
  rw[g,show ((D:Int)).natAbs=D from rfl,A32 oV,<-A5k];exact Bao.2 (A3u _ _)
 omega
def De.tx (h:De a b q)(n:0<a)(e:a<=400)(t:0<b)(g:b<=400):Tx q:=by
 obtain⟨j,m⟩:=h.frac;exact⟨A04 (Cz n j) e,A04 (Cz t m) g⟩
def Dn.de {d N a b:Nat}(h:Dn d N q)(j:N<10^a)(g:12^d<10^b):De a b q:=by
 obtain⟨k,e,m⟩:=h;exact⟨k,12^d,e,Adj d,oV,g⟩
end
section
variable {H:CF}
def B9 {α:Type}(f:α->Rat):List α->Rat
 |[]=>0
 |a::l=>f a+B9 f l
section
variable {α β:Type} {f g:α->Rat}
theorem U7:∀ (l l':List α),B9 f (l++l')=B9 f l+B9 f l'
 |[],l'=>by show B9 f l'=0+B9 f l';grind
 |a::l,l'=>by show f a+B9 f (l++l')=f a+B9 f l+B9 f l';rw[U7 l l'];grind
theorem Ang (l:List α)(a:α):B9 f (l++[a])=B9 f l+f a:=by
 rw[U7];show _+(f a+0)=_;grind
def Dt:∀ {l:List α},(∀ a∈l,f a=g a)->B9 f l=B9 g l
 |[],_=>rfl
 |a::l,h=>by
  show f a+B9 f l=g a+B9 g l;rw[h a (A4l ..),Dt fun x e=>h x (A2f _ e)]
theorem L7:∀ (l:List α),B9 (fun a=>f a+g a) l=B9 f l+B9 g l
 |[]=>by show (0:Rat)=0+0;grind
 |a::l=>by show f a+g a+B9 (fun a=>f a+g a) l=(f a+B9 f l)+(g a+B9 g l);rw[L7 l];grind
theorem Ls (k:Rat):∀ (l:List α),B9 (fun a=>f a*k) l=B9 f l*k
 |[]=>by show (0:Rat)=0*k;grind
 |a::l=>by show f a*k+B9 (fun a=>f a*k) l=(f a+B9 f l)*k;rw[Ls k l];grind
theorem Ji (k:Rat)(l:List α):B9 (fun a=>k*f a) l=k*B9 f l:=by
 rw[show (fun a=>k*f a)=fun a=>f a*k from funext fun a=>by grind,Ls];grind
theorem Fv:∀ {l:List α},(∀ a∈l,f a=0)->B9 f l=0
 |[],_=>rfl
 |a::l,h=>by
  show f a+B9 f l=0;rw[h a (A4l ..),Fv fun x e=>h x (A2f _ e)];grind
def So (h:β->α):∀ (l:List β),B9 f (l.map h)=B9 (fun b=>f (h b)) l
 |[]=>rfl
 |a::l=>by show f (h a)+B9 f (l.map h)=f (h a)+B9 (fun b=>f (h b)) l;rw[So h l]
end
def An (P:List Par):List (Option Par):=none::P.map some
def B7:Par:=(-1,[])
def As (C:CF):Option Par->Option Par->Rat
 |none,none=>C.c
 |none,some p=>C.s p
 |some p,none=>C.s p
 |some p,some q=>C.t (Ay p q)
def Bh (C:CF):Option Par->Rat
 |none=>C.s B7
 |some p=>C.t (Ay B7 p)
def Dh (b:Option Par->Rat)(P:List Par)(C:CF):Rat:=B9 (fun e=>B9 (fun f=>b e*As C e f*b f) (An P)) (An P)
def T1 (C H:CF)(w:Rat)(e f:Option Par):As (C.add (H.scale w)) e f=As C e f+As H e f*w:=by
 cases e<;>cases f<;>rfl
def Xz (C H:CF)(w:Rat)(e:Option Par):Bh (C.add (H.scale w)) e=Bh C e+Bh H e*w:=by
 cases e<;>rfl
theorem Am0 (b:Option Par->Rat)(P:List Par)(C H:CF)(w:Rat):Dh b P (C.add (H.scale w))=Dh b P C+Dh b P H*w:=by
 unfold Dh;rw[<-Ls w,<-L7];refine Dt fun e _=>?_;rw[<-Ls w,<-L7];refine Dt fun f _=>?_;rw[T1];grind
def Anc (b:Option Par->Rat)(P:List Par)(x:Par->Rat):Rat:=b none+B9 (fun p=>b (some p)*x p) P
def Zg (x:Par->Rat):Option Par->Rat
 |none=>1
 |some p=>x p
theorem Aej (b:Option Par->Rat)(P:List Par)(x:Par->Rat):B9 (fun e=>b e*Zg x e) (An P)=Anc b P x:=by
 unfold An Anc;show b none*1+B9 _ (P.map some)=_;rw[So];show b none*1+B9 (fun p=>b (some p)*x p) P=_;grind
structure Qi (H:CF):Prop where
 c:H.c=1
 t:∀ p q,H.t (Ay p q)=H.s p*H.s q
theorem Qi.cell (h:Qi H)(e f:Option Par):As H e f=Zg H.s e*Zg H.s f:=by
 cases e<;>cases f
 ·show H.c=1*1;rw[h.c];grind
 ·show H.s _=1*H.s _;grind
 ·show H.s _=H.s _*1;grind
 exact h.t _ _
theorem Qi.right (h:Qi H)(e:Option Par):Bh H e=H.s B7*Zg H.s e:=by
 cases e
 ·show H.s B7=H.s B7*1;grind
 exact h.t _ _
theorem Qi.norm (h:Qi H)(b:Option Par->Rat)(P:List Par):Dh b P H=Anc b P H.s*Anc b P H.s:=by
 unfold Dh;have j:∀ e,B9 (fun f=>b e*As H e f*b f) (An P)=(b e*Zg H.s e)*Anc b P H.s:=fun e=>by
  rw[<-Aej,<-Ji];exact Dt fun f _=>by rw[h.cell];grind
 rw[Dt fun e _=>j e,Ls,Aej]
structure Ag0 (H:CF):Prop where
 c:H.c=0
 s:∀ p,H.s p=0
 t:∀ k,H.t k=0
def Ag0.cell (h:Ag0 H)(e f:Option Par):As H e f=0:=by
 cases e<;>cases f
 ·exact h.c
 ·exact h.s _
 ·exact h.s _
 exact h.t _
theorem Ag0.norm (h:Ag0 H)(b:Option Par->Rat)(P:List Par):Dh b P H=0 :=
 Fv fun e _=>Fv fun f _=>by rw[h.cell];grind
theorem Pf {T:List (List UInt8×Nat)}{F:List Al}{lab:Int}{ss:List (List UInt8)}(hF:Da T F lab)(n:Bw T ss)(e:-1<=lab)(j:∀ l:Nat,lab=(l:Int)->l<ss.length) :
 (G4 F lab ss=true/\Qi (cfT F lab ss))\/(G4 F lab ss=false/\Ag0 (cfT F lab ss)):=by
 cases hc:G4 F lab ss with
 |false=>right;rw[Ajl hF n e j hc];exact⟨rfl,rfl,fun _=>rfl,fun _=>rfl⟩
 |true =>
  left;have m:=Alr hF n e j hc;refine⟨rfl,m.c,fun p q=>?_⟩;rw[m.t,if_neg (To p q)];by_cases h:0<Bk p q
  ·rw[Ro h];grind
  rw[Ii h]
end
section
variable {q:Rat}{u:PH}
def S7 (h:Tx q):Fn0 prog 103 [.string (mkS (Ae q))] u fun v _=>v=.int .i64 (sgn q.num):=by
 refine Fn0.o func103<|G.c call169 (Gu h) ?_;rintro I E z rfl;refine G.c call133 (Gs h) ?_;intro J F l2 e;obtain⟨t,a1,n1,c1,j,g,n,m,rfl⟩:=e.opn;refine G.c call131 (Aao e (A04 h.sz.1 oV)) ?_;rintro K H C rfl;exact G.r _ ⟨rfl,rfl⟩
def Agd (h:Tx q):Fn0 prog 25 [.string (mkS (Ae q))] u fun v _=>v=.int .i64 (sgn q.num):=by
 refine Fn0.o func25<|G.c call24 (Ee h) ?_;rintro I E t rfl;refine G.c call27 (G8 h) ?_;intro J F z e;obtain⟨n,a3,n3,c3,g,m,j,rfl,_⟩:=e.opn;refine G.c call33 (Aef e (A04 h.sz.1 oV)) ?_;rintro K H C rfl;exact G.r _ ⟨rfl,rfl⟩
end
structure Ai6 (C:CF)(k:Nat):Prop where
 c:C.c=(k:Rat)
 lt:k<100
 s:∀ p,De 75 18 (C.s p)
 t:∀ p,De 75 18 (C.t p)
def Ai6.tx {C:CF}{k:Nat}(h:Ai6 C k):Tx C.c:=by
 rw[h.c];exact (De.nat (a:=2) (by have:=h.lt;omega)).tx oV oV oV oV
def Ai6.cpos {C:CF}{k:Nat}(h:Ai6 C k)(h0:k≠0):0<C.c:=by
 rw[h.c];have g:=Ah2 k;refine Rat.lt_of_le_of_ne g fun e=>T4 (D:=k) oV e.symm
def Cp (P:List Par):(An P).length=P.length+1:=by unfold An;simp
def Aq2 {u:PH}:Fn0 prog 55 [] u fun r _=>r=Ap B7:=Fn0.o func55<|G.r (Ap B7) ⟨rfl,rfl⟩
section
variable {N d:Nat}{q:Rat}
theorem Dn.lift (j:Nat)(h:Dn d N q):Dn (d+j) (N*12^j) q:=by
 obtain⟨k,e,g⟩:=h;refine⟨k*((12^j:Nat):Int),?_,?_⟩
 ·rw[A3c,A2r,<-e,A4k,A7e];grind
 rw[A26];exact A13 _ g
def Dn.to {d e N M:Nat}(h:Dn d N q)(j:d<=e)(g:N*12^(e-d)<=M):Dn e M q:=by
 have:=h.lift (e-d);rw[show d+(e-d)=e by omega]at this;exact this.mono g
end
section
open Go.RowKit Go.MapKept Go.Shelf Go.Sort
variable {L:List Par}
def S1 (L:List Par):A2 (L.map Ap)=L.flatMap Ci:=by
 unfold A2;rw[List.flatMap_map];rfl
def F0 (L:List Par):(L.flatMap Ci).length=L.length*2:=by
 induction L with
 |nil=>rfl
 |cons x L ih=>rw[A6o,A1d,ih,Nf,A3f,A16];omega
def Add {L L':List Par}(j:L'.length=L.length)(rest:List Value):putCells id 0 (flatK Ci 2 L'.toArray) (L.flatMap Ci++rest).toArray=(L'.flatMap Ci++rest).toArray:=by
 have g:=F0 L;have h:=F0 L';have m:(flatK Ci 2 L'.toArray).size=L'.length*2:=by rw[size_flatK];simp
 apply Baq;intro t;unfold putCells;rw[Array.getElem?_mapIdx,A3j,A3j,m];by_cases e:t<L'.length*2
 ·rw[A1r oV,A1r oV,Qb Nf L' t e];have:(L.flatMap Ci)[t]?=some (L.flatMap Ci)[t]:=A01 oV;rw[this];simp only[A4c,A1t,A2w,true_and,if_pos e,id,A6t];rw[get_flatK Ci 2 _ t (by simpa using e)]
 rw[A18 oV,A18 oV,g,h,j];cases hr:rest[t-L.length*2]? with
 |none=>rfl
 |some x =>
  simp only[A4c,A1t,A2w,true_and];rw[if_neg oV]
def Aex (L:List Par):A9 2 (L.map Ap):=by
 intro e h;obtain⟨x,_,rfl⟩:=A1b.1 h;exact⟨rfl,fun y g=>by simp[Ap,Value.cells]at g;rcases g with rfl|rfl<;>rfl⟩
def Aq7 {u m0 m:PH}{v:Value}(hA:Af m0 m v 118 2 (L.map Ap))(a4:L.Nodup)(hl:L.length<=1000000) :
 Ag prog 267 [v,.func (.func 200) #[] #[]] u m fun r u' m'=>r=.tuple #[]/\Af m0 m' v 118 2 ((E6 Bk L).map Ap):=by
 have hp:=Ir (c:=Bk) L;have K:(E6 Bk L).length=L.length:=hp.length_eq;intro w O;obtain⟨a5,h⟩:=hA;rcases h with ⟨rfl,he,rfl⟩|⟨g,cap,rest,a0,rfl,rfl,P,J,N⟩
 ·have hL:L = []:=by simpa using he
  subst hL;refine (AnyF.slices_SortFunc_none Tryz.sortPar none 0 _ w).mono ?_;rintro e w' ⟨rfl,rfl⟩;exact⟨_,u,m,rfl,O,⟨A08 _,fun _ _ _=>rfl,fun _ _=>rfl,fun _ _ h=>h,⟨rfl,rfl⟩,fun f=>f.elim⟩,rfl,by
   have e:E6 Bk ([]:List Par) = []:=A9i.1 K;rw[e];exact Af.nil _ _ _⟩
 rw[A03]at P⊢;rw[S1]at J O;have T:w.heap[g]?=some (.cells (L.flatMap Ci++rest).toArray 118 (0,0)):=O.pm g _ (Ab _ _ _);have hH:HoldsK Ci 2 w g 0 L.toArray:=Ani (enc:=Ci) (k:=2) Nf T (by
  show (L.flatMap Ci++rest).take (L.length*2)=_;rw[A6n (by rw[F0];omega),A1j (by rw[F0];omega)])
 have X:g<w.heap.size:=Aw T;have I:=AnyQ.slices_SortFunc_total Tryz.sortPar 2 (fun w=>kV) (fun w=>kV) Ci (fun _=>rfl) (fun x v hv=>by simp at hv;rcases hv with rfl|rfl<;>rfl) Bk Et.swo 200 #[] g 0 cap L.toArray w call200 (Ai5 g 0 _ w) hH X gV Et.tot
 change Calls prog 267 _ _ _ at I;simp only[A7s]at I;refine Calls.mono I ?_;rintro e w' ⟨rfl,nn,os,rfl⟩;change Ady _ _ _ (sortWorldK Ci 2 w g 0 nn (E6 Bk L).toArray os);obtain⟨w',V⟩:∃ w',w'=sortWorldK Ci 2 w g 0 nn (E6 Bk L).toArray os:=⟨_,rfl⟩;have E:w'.heap=w.heap.modify g (onCells (putCells id 0 (flatK Ci 2 (E6 Bk L).toArray)))++os:=by rw[V];rfl
 have a1:w'.os=w.os/\w'.output=w.output:=by rw[V];exact⟨rfl,rfl⟩
 rw[<-V];have a2:w.heap.size<=w'.heap.size:=by rw[E,Array.size_append,A83];omega
 have H:∀ k,k<w.heap.size->k≠g->w'.heap[k]?=w.heap[k]?:=fun k n U=>by
  rw[E,A5s (by rw[A83];exact n),A8c,if_neg (fun e=>U e.symm)]
 have Q:w'.heap[g]?=some (.cells ((E6 Bk L).flatMap Ci++rest).toArray 118 (0,0)):=by
  rw[E,A5s (by rw[A83];exact X),A8c,if_pos rfl,T];show some (Obj.cells (putCells id 0 _ _) _ _)=_;rw[Add K]
 have a3:u g=none:=(O.ap g).resolve_right (by rw[Ab];simp);have R:=Aex (E6 Bk L);refine⟨_,fun k=>if k<w.heap.size then u k else w'.heap[k]?,m0.upd g (.cells (A2 ((E6 Bk L).map Ap)++rest).toArray 118 (0,0)),rfl,⟨?_,?_,?_,?_⟩,⟨a2,?_,?_,?_,a1,fun f=>f.elim⟩,rfl,R,.inr ⟨g,cap,rest,a0,rfl,by rw[A03,K],by rw[A03,K];exact P,?_,N⟩⟩
 ·intro k o n;simp only at n;split at n
  ·rename_i F;have U:k≠g:=fun e=>by subst e;rw[a3]at n;cases n
   rw[H k F U];exact O.pu k o n
  exact n
 ·intro k o n;by_cases e:k=g
  ·subst e;rw[Ab]at n;cases n;rw[Q,S1]
  rw[Ad _ _ e]at n;have:=O.pm k o (by rw[Ad _ _ e];exact n);rw[H k (Aw this) e];exact this
 ·intro k;simp only;by_cases F:k<w.heap.size
  ·rw[if_pos F];rcases O.ap k with h|h
   ·exact .inl h
   by_cases e:k=g
   ·subst e;rw[Ab]at h;cases h
   right;rw[Ad _ _ e]at h⊢;exact h
  right;have e:k≠g:=fun e=>oV;rw[Ad _ _ e];have:=O.pm.none (g:=k) (by show w.heap.size<=k;omega);rw[Ad _ _ e]at this;exact this
 ·intro k cs t fr j z n Z;simp only;by_cases F:k<w.heap.size
  ·rw[if_pos F];by_cases e:k=g
   ·subst e;rw[Q]at n;cases n;exfalso;have Y:Value.int .u64 z∈(E6 Bk L).flatMap Ci++rest:=by
     rw[A3j]at Z;exact A1k Z
    have W:∀ x∈(E6 Bk L).flatMap Ci++rest,Ax x=true:=fun x hx=>by
     rcases A1h.1 hx with h|h
     ·rw[<-S1]at h;exact Fu R x h
     exact N x h
    have:=W _ Y;cases this
   rw[H k F e]at n;exact O.cl k cs t fr j z n Z
  rw[if_neg F];exact n
 ·intro k n C;refine H k n fun e=>?_;subst e;simp only at C;rw[Ab]at C;cases C
 ·intro k n;simp only;exact if_pos n
 ·intro k n C;by_cases e:k=g
  ·subst e;simp only at C;rw[Ab]at C;cases C
  simp only at C;rw[Ad _ _ e]at C⊢;exact C
 rw[S1,A1d,F0,K];rw[A1d,F0]at J;exact J
end
section
variable {F:List Al}{R:List Br}{T:List (List UInt8×Nat)}{lab:Int}{n:Nat}{u:PH}{v:Value}
def Adm (F:List Al)(lab:Int)(p:Par):Prop:=(p.1 = -1/\0<=lab/\p.2 = [])\/(∃ (k:Nat) (f:Al),p.1=(k:Int)/\F[k]?=some f/\(f.2.1=2\/p.2 = []))
def Ap8 {p:Par}(L:H5 u v T R F lab)(ok:Bl u T R F lab)(hp:Adm F lab p) :
 Fn0 prog 265 [v,Ap p] u fun r _=>r=.bool true:=by
 obtain⟨xa,xc,V,W,X,Q,rfl,K,J,z⟩:=L;have N:=ok.f2;refine Fn0.o func265 ?_;rcases hp with ⟨h,t,g⟩|⟨k,f,h,E,g⟩
 ·exact G.eT' p.1 (-1) h<|G.hT' lab 0 t<|G.q p.2 [] g<|G.r (.bool true) ⟨rfl,rfl⟩
 obtain⟨U,P⟩:=p;simp only at h g;subst h;have O:=(A05.1 E).1;obtain⟨m,C,rfl,H⟩:=Ac.at' z (j:=k) (e:=Cm f) (by simp[E]);obtain⟨f1,f2,I⟩:=f;simp only at g;refine G.eF k (-1)<|G.hF k F.length<|G.a m C F.length Q k 3 O<|G.f 100 m (C+k*3) 1 1<|G.lU none m (C+k*3+1) (.int .i64 f2) (H.fld (j:=1) (xs:=#[.int .i64 f1,.int .i64 f2,.int .i64 I]) rfl rfl) ?_;by_cases t:f2=2
 ·exact G.eT f2 2<|G.r (.bool true) ⟨rfl,rfl⟩
 exact G.eF f2 2<|G.q P [] (g.resolve_left t)<|G.r (.bool true) ⟨rfl,rfl⟩
def Av4 {u m:PH}{b:Nat}{x:Par×Rat}(z:ElP m b 0 v)(g:H5 u v T R F lab)(ok:Bl u T R F lab)(hp:Adm F lab x.1) :
 FnK prog 264 [Bt x,.pointer (some ⟨b,0,none⟩)] u m fun v _=>v=.bool false:=by
 have e:=Ap8 g ok hp;obtain⟨xa,xc,C,E,H,I,rfl,t,j,h⟩:=g;refine FnK.of func264 kV kV<|G.lM (some 4) b 0 (.agg #[.slice xa T.length xc,.slice C R.length E,.slice H F.length I,.int .i64 lab]) z<|G.c call265 e ?_;rintro L K J rfl;exact G.r (.bool false) ⟨rfl,rfl⟩
def Arx {u m:PH}{v cap:Value}{T:List (Par×Rat)}{fid:Nat}(h:Ac u v 3 (T.map Bt))(U:T.length<=1000000)
 (g:∀ args w,(callFunc fid args).run prog w=.ok (.enter fid args) w) (N:∀ p∈T,∀ E,PH.le u E->FnK prog fid [Bt p,cap] E m fun v _=>v=.bool false) :
 FnK prog 301 [v,.func (.func fid) #[] #[cap]] u m fun Q _=>Q=.int .i64 (-1):=by
 obtain⟨a,c,rfl⟩:=h.opn;rw[A03]at h⊢;refine FnK.of func301 kV kV<|G.l (ι:=Nat) (fun i=>[(0,sV a T.length c),(1,.v (.func (.func fid) #[] #[cap])),(7,iV T.length),(8,iV i)]) (fun _=>[])
  (fun i E O=>i<=T.length/\O=m) (fun i=>T.length-i) 0 ⟨oV,rfl⟩ ?_
 rintro J i L P V C ⟨hi,rfl⟩;by_cases t:i<T.length
 ·refine G.lT i T.length ?_;have z:T[i]?=some T[i]:=A01 t;obtain⟨H,I,rfl,K⟩:=Ac.at' (h.mono C) (j:=i) (e:=Bt T[i]) (by simp[z]);refine G.a H I T.length c i 3 oV<|G.lU (some 3) H (I+i*3) (Bt T[i]) K<|G.callK fid [Bt T[i],cap] kV g (N T[i] (A09 t) P C) ?_;rintro X W l2 rfl;exact G.i i<|G.b (L (i+1) _ _ _ cV (C.trans l2) ⟨oV,rfl⟩ oV)
 obtain rfl:i=T.length:=oV;exact G.lF T.length T.length<|G.r (.int .i64 (-1)) ⟨rfl,rfl⟩
def Agu {u m:PH}{v cap:Value}{T:List (Par×Rat)}{fid:Nat}(h:Ac u v 3 (T.map Bt))(t:T.length<=1000000)
 (e:∀ args w,(callFunc fid args).run prog w=.ok (.enter fid args) w) (j:∀ p∈T,∀ g,PH.le u g->FnK prog fid [Bt p,cap] g m fun v _=>v=.bool false) :
 FnK prog 263 [v,.func (.func fid) #[] #[cap]] u m fun z _=>z=.bool false:=by
 obtain⟨a,c,rfl⟩:=h.opn;refine FnK.of func263 kV kV<|G.callK _ _ kV call301 (Arx h t e j) ?_;rintro H E C rfl;exact G.hF (-1) 0<|G.r (.bool false) ⟨rfl,rfl⟩
def Dy (F:List Al)(n:Nat):List Nat:=(List.range n).filter fun i=>(F.getD i (0,0,0)).2.1==1
def Amd {f:Al}(g:F[n]?=some f):Dy F (n+1)=if f.2.1=1 then Dy F n++[n] else Dy F n:=by
 unfold Dy;rw[A5d,List.filter_append];have e:(F.getD n (0,0,0))=f:=by simp[A02,g]
 by_cases h:f.2.1=1
 ·rw[if_pos h,List.filter_cons_of_pos (by rw[e];simp[h])];rfl
 rw[if_neg h,List.filter_cons_of_neg (by rw[e];simp[h])];simp
def Aez (F:List Al)(n:Nat):(Dy F n).length<=n:=by
 unfold Dy;exact A04 (A8d _ _) mV
def Xo {n i:Nat}:i∈Dy F n↔i<n/\(F.getD i (0,0,0)).2.1=1:=by
 unfold Dy;simp[A7a]
def Aii (F:List Al)(n:Nat):(Dy F n).Nodup:=List.nodup_range.filter _
def Aeh (V:H5 u v T R F lab)(ok:Bl u T R F lab) :
 Fn0 prog 266 [v] u fun r X=>Ac X r 1 (Ai (Dy F F.length)):=by
 have K:=Adn V ok;obtain⟨xa,xc,xb,xd,xe,Y,rfl,a1,a0,H⟩:=V;have a2:=ok.f2;refine Fn0.o func266<|G.c call98 K ?_;rintro v1 u1 l1 rfl;refine G.nF 0 0<|G.l (ι:=Nat×(Option Addr×Nat)) (fun i=>[(3,sV i.2.1 (Dy F i.1).length i.2.2),(10,sV xe F.length Y),(11,iV F.length),(12,iV i.1)]) (fun _=>[])
  (fun i X m'=>i.1<=F.length/\Af PH.mt m' (.slice i.2.1 (Dy F i.1).length i.2.2) 3 1 (Ai (Dy F i.1))) (fun i=>F.length-i.1) (0,(none,0)) ⟨oV,Af.nil _ _ _⟩ ?_
 rintro J ⟨i,⟨N,O⟩⟩ I u2 m2 l2 ⟨hi,m⟩;simp only at hi m I;have L:=l1.trans l2;have a3:=Aez F i;by_cases z:i<F.length
 ·refine G.lT i F.length ?_;obtain⟨f,t⟩:∃ f,F[i]?=some f:=⟨_,A01 z⟩;have C:=Amd t;obtain⟨P,Q,rfl,ef⟩:=Ac.at' (H.mono L) (j:=i) (e:=Cm f) (by simp[t]);obtain⟨p1,E,p3⟩:=f;simp only at C;refine G.a P Q F.length Y i 3 z<|G.lU (some 3) P (Q+i*3) (.agg #[.int .i64 p1,.int .i64 E,.int .i64 p3]) ef ?_;by_cases U:E=1
  ·rw[if_pos U]at C;refine G.eT E 1<|G.buildU 3 1 8 (.int .i64 0) (Ai [i]) kV (Av [i]) rfl oV (by simp[Ai]) (by simp[Ai]) ?_;intro g3 u3 W e3;refine G.append 3 1 8 (.int .i64 0) PH.mt (Ai (Dy F i)) (Ai [i]) (.slice N (Dy F i).length O) g3 0 1 1 kV rfl rfl oV m e3 (Av [i]) rfl oV (by simp[Ai];omega) (by simp[Ai];omega) ?_;intro v4 m4 h;have e4:Ai (Dy F i)++Ai [i]=Ai (Dy F (i+1)):=by rw[C];simp[Ai]
   rw[e4]at h;obtain⟨Z,c4,rfl⟩:=h.shape;have e5:(Ai (Dy F (i+1))).length=(Dy F (i+1)).length:=by simp[Ai]
   rw[e5]at h⊢;exact G.i i<|G.b (I (i+1,(Z,c4)) _ _ _ cV (l2.trans W) ⟨dV,h⟩ dV)
  rw[if_neg U]at C;refine G.eF E 1<|G.i i ?_;rw[<-C]at m⊢;exact G.b (I (i+1,(N,O)) _ _ _ cV l2 ⟨dV,m⟩ dV)
 obtain rfl:i=F.length:=oV;refine G.lF F.length F.length<|G.give _ _ _ kV m (fun g=>.inl rfl) ?_;intro u3 W hL;exact G.r (.slice N (Dy F F.length).length O) ⟨rfl,hL⟩
end
section
open Go.RowKit Go.MapKept Go.Sort
variable {A:List (Par×Rat)}{C:CF}{F:List Al}
def Pw (F:List Al)(p:Par):Bool:=decide (0<=p.1)&&(F.getD p.1.toNat (0,0,0)).2.1==2
def J9 (F:List Al)(A:List (Par×Rat))(n:Nat):List Par:=((A.take n).map (·.1)).filter (Pw F)
theorem Am7 {n:Nat}{x:Par×Rat}(h:A[n]?=some x):J9 F A (n+1)=if Pw F x.1=true then J9 F A n++[x.1] else J9 F A n:=by
 unfold J9;have e:A.take (n+1)=A.take n++[x]:=by rw[A1n,h];rfl
 by_cases g:Pw F x.1=true
 ·grind
 grind
def Aq1 (F:List Al)(A:List (Par×Rat))(n:Nat):(J9 F A n).length<=A.length:=by
 refine A04 (A8d _ _) ?_;rw[A03,A1e];omega
def Li (i:Nat):Par:=((i:Int),[])
def Le (F:List Al):List Par:=(Dy F F.length).map Li
def K1 (p:Par):A9 2 [Ap p]:=Aex [p]
def Aec (j:(A.map (·.1)).Nodup):(Le F++J9 F A A.length).Nodup:=by
 refine A4p.2 ⟨?_,?_,?_⟩
 ·refine List.Pairwise.map _ (fun a b g e=>?_) (Aii F F.length);unfold Li at e;simp only[A2i]at e;exact g oV
 ·unfold J9;rw[A15];exact j.filter _
 intro a m b n e;subst e;obtain⟨i,hi,rfl⟩:=A1b.1 m;have h:=(A7a.1 n).2;unfold Pw Li at h;simp only[A1m,beq_iff_eq,A23]at h;have t:=(Xo.1 hi).2;omega
theorem Anj (j:Can Bk C.s A){p:Par}:p∈Le F++J9 F A A.length↔(∃ (i:Nat) (f:Al),p=Li i/\F[i]?=some f/\f.2.1=1)\/(C.s p≠0/\∃ (i:Nat) (f:Al),p.1=(i:Int)/\F[i]?=some f/\f.2.1=2):=by
 have m:p∈A.map (·.1)↔C.s p≠0:=by
  constructor
  ·intro h;obtain⟨x,t,rfl⟩:=A1b.1 h;obtain⟨e,g⟩:=j.val x t;rw[<-e];exact g
  intro h;exact A3m fun n=>h (j.out p n)
 rw[A1h];refine or_congr ?_ ?_
 ·unfold Le;rw[A1b];constructor
  ·rintro⟨i,hi,rfl⟩;obtain⟨e,g⟩:=Xo.1 hi;refine⟨i,F[i],rfl,A01 e,?_⟩;rw[A02,A01 e,A4w]at g;exact g
  rintro⟨i,f,rfl,hf,e⟩;refine⟨i,Xo.2 ⟨(A05.1 hf).1,?_⟩,rfl⟩;rw[A02,hf,A4w];exact e
 unfold J9;unfold Pw;constructor
 ·grind
 grind
abbrev Nn (F:List Al)(C:CF)(L:List Par):Prop :=
 Hb Bk L/\∀ p,p∈L↔(∃ (i:Nat) (f:Al),p=Li i/\F[i]?=some f/\f.2.1=1)\/(C.s p≠0/\∃ (i:Nat) (f:Al),p.1=(i:Int)/\F[i]?=some f/\f.2.1=2)
def Nn.eq {L L':List Par}(h:Nn F C L)(e:Nn F C L'):L=L' :=
 Agg Et h.1 e.1 fun p=>(h.2 p).trans (e.2 p).symm
def Azr (u:PH)(r:Value)(F:List Al)(C:CF):Prop :=
 (r=.tuple #[.slice none 0 0,.int .i64 3]/\∃ L,24<L.length/\Nn F C L)\/∃ (ps:Value) (L:List Par),r=.tuple #[ps,.int .i64 0]/\Ac u ps 2 (L.map Ap)/\L.length<=24/\Nn F C L
theorem Ahd {u:PH}{v w:Value}{T:List (List UInt8×Nat)}{R:List Br}{lab:Int}{K:Nat}(hX:H5 u v T R F lab)(ok:Bl u T R F lab)(hC:No u w C K)(sC:CFS C)(vC:CFV C)(hK:K<=100000)(hb:∀ p,C.s p≠0->Adm F lab p) :
 Fn0 prog 232 [v,w] u fun r u'=>Azr u' r F C:=by
 have ai:=fun (u':PH) (l:PH.le u u')=>Adn (hX.mono l) (ok.mono l);have an:=fun (u':PH) (l:PH.le u u')=>Ax1 (hC.mono l) sC vC oV;obtain⟨xa,xc,V,W,H,z,rfl,ar,aq,ag⟩:=id hX;obtain⟨A,Q,a1,c1,a2,c2,rfl,hA,hQ,cA,cQ,kA,kQ⟩:=hC;have aw:=ok.f2;refine Fn0.o func232<|G.c call98 (ai u (PH.le_refl _)) ?_;rintro v1 u1 l1 rfl;refine G.nF 0 0<|G.c call262 (an u1 l1) ?_;rintro v2 u2 l2 rfl;have P:=l1.trans l2;refine G.pub 0 30 [.slice xa T.length xc,.slice V R.length W,.slice H F.length z,.int .i64 lab] kV kV ?_;intro b au av;have a3:∀ (m':PH),m' b=some (.cells [Value.slice xa T.length xc,.slice V R.length W,.slice H F.length z,.int .i64 lab].toArray 30 (0,0))->ElP m' b 0 (.agg #[.slice xa T.length xc,.slice V R.length W,.slice H F.length z,.int .i64 lab]):=fun m' h=>My (xs:=[.slice xa T.length xc,.slice V R.length W,.slice H F.length z,.int .i64 lab]) h rfl;obtain⟨E,ac⟩:∃ E:PH,E=PH.mt.upd b (.cells [Value.slice xa T.length xc,.slice V R.length W,.slice H F.length z,.int .i64 lab].toArray 30 (0,0)):=⟨_,rfl⟩;have t:E b=some (.cells [Value.slice xa T.length xc,.slice V R.length W,.slice H F.length z,.int .i64 lab].toArray 30 (0,0)):=by rw[ac];exact Ab _ _ _
 rw[<-ac];refine G.callK _ _ kV call263 (Agu (cap:=.pointer (some ⟨b,0,none⟩)) (hA.mono P) oV call264 fun x hx u' l'=>Av4 (a3 E t) (hX.mono (P.trans l')) (ok.mono (P.trans l')) (hb x.1 (by obtain⟨q1,q2⟩:=cA.val x hx;rw[<-q1];exact q2))) ?_;rintro v3 u3 l3 rfl;have a9:=P.trans l3;refine G.lM (some 4) b 0 (.agg #[.slice xa T.length xc,.slice V R.length W,.slice H F.length z,.int .i64 lab]) (a3 E t)<|G.c call266 (Aeh (hX.mono a9) (ok.mono a9)) ?_;intro v4 u4 l4 hN;obtain⟨na,nc,rfl⟩:=hN.opn;have al:(Ai (Dy F F.length)).length=(Dy F F.length).length:=by simp[Ai]
 rw[al]at hN⊢;have ay:=Aez F F.length;have ao:=a9.trans l4;refine G.l (ι:=Nat×(Option Addr×Nat)) (fun i=>[(2,.v (.pointer (some ⟨b,0,none⟩))),(3,.p 1 0),(6,sV i.2.1 ((Dy F F.length).take i.1).length i.2.2),(28,sV na (Dy F F.length).length nc),(29,iV ((Dy F F.length).length)),(30,iV i.1)])
  (fun _=>[(1,⟨38,[tV (Ae C.c),sV a1 A.length c1,sV a2 Q.length c2]⟩)])
  (fun i u' m'=>i.1<=(Dy F F.length).length/\Af E m' (.slice i.2.1 ((Dy F F.length).take i.1).length i.2.2) 118 2 ((((Dy F F.length).take i.1).map Li).map Ap)) (fun i=>(Dy F F.length).length-i.1) (0,(none,0)) ⟨oV,Af.nil _ _ _⟩ ?_
 rintro J ⟨i,⟨pa,pc⟩⟩ X u5 m5 l5 ⟨hi,m⟩;simp only at hi m X;have ap:=ao.trans l5;by_cases n:i<(Dy F F.length).length
 ·refine G.lT i ((Dy F F.length).length:Int) ?_;obtain⟨k,hk⟩:∃ k,(Dy F F.length)[i]?=some k:=⟨_,A01 n⟩;have am:(Dy F F.length).take (i+1)=(Dy F F.length).take i++[k]:=by rw[A1n,hk];rfl
  obtain⟨bb,ob,rfl,eb⟩:=Ac.at' (hN.mono l5) (j:=i) (e:=.int .i64 k) (by simp[Ai,hk]);have b1:((Dy F F.length).take i).length=i:=by rw[A1e];omega
  refine G.a bb ob (Dy F F.length).length nc i 1 n<|G.lU none bb (ob+i*1) (.int .i64 k) eb<|G.B 118 2 24 (.agg #[.int .i64 0,.string (mkS [])]) [.agg #[.int .i64 k,.string (mkS [])]] (K1 (Li k)) ?_;intro g6 u6 l6 e6;refine G.k 118 2 24 (.agg #[.int .i64 0,.string (mkS [])]) E _ [Ap (Li k)] _ g6 0 1 1 m e6 (K1 (Li k)) ?_;intro v7 m7 I;have e7:(((Dy F F.length).take i).map Li).map Ap++[Ap (Li k)]=(((Dy F F.length).take (i+1)).map Li).map Ap:=by rw[am];simp
  rw[e7]at I;obtain⟨a7,c7,rfl⟩:=I.shape;rw[A03,A03]at I⊢;exact G.i i<|G.b (X (i+1,(a7,c7)) _ _ _ cV (l5.trans l6) ⟨dV,I⟩ dV)
 obtain rfl:i=(Dy F F.length).length:=oV;refine G.lF ((Dy F F.length).length:Int) ((Dy F F.length).length:Int) ?_;clear X;rw[A15]at m⊢;have aa:Af E m5 (.slice pa (Le F++J9 F A 0).length pc) 118 2 ((Le F++J9 F A 0).map Ap):=by
  have e1:J9 F A 0 = []:=rfl;have e2:(Le F).length=(Dy F F.length).length:=by unfold Le;simp
  rw[e1,A1x,e2];exact m
 have e0:(Dy F F.length).length=(Le F++J9 F A 0).length:=by
  have e1:J9 F A 0 = []:=rfl;have e2:(Le F).length=(Dy F F.length).length:=by unfold Le;simp
  rw[e1,A1x,e2]
 rw[e0];have az:(Le F).length<=8:=by unfold Le;rw[A03];omega
 refine G.l (ι:=Nat×(Option Addr×Nat)) (fun i=>[(2,.v (.pointer (some ⟨b,0,none⟩))),(6,sV i.2.1 (Le F++J9 F A i.1).length i.2.2),(41,sV a1 A.length c1),(42,iV A.length),(43,iV i.1)]) (fun _=>[])
  (fun i u' m'=>i.1<=A.length/\Af E m' (.slice i.2.1 (Le F++J9 F A i.1).length i.2.2) 118 2 ((Le F++J9 F A i.1).map Ap)) (fun i=>A.length-i.1) (0,(pa,pc)) ⟨oV,aa⟩ ?_
 clear m aa e0;rintro J ⟨i,⟨pa,pc⟩⟩ X u6 m6 l6 ⟨hi,m⟩;simp only at hi m X;have ae:=ap.trans l6;have ax:=Aq1 F A i;by_cases n:i<A.length
 ·refine G.lT i A.length ?_;obtain⟨x,a0⟩:∃ x,A[i]?=some x:=⟨_,A01 n⟩;have Z:=Am7 (F:=F) a0;have Y:Adm F lab x.1:=hb x.1 (by obtain⟨q1,q2⟩:=cA.val x (A1k a0);rw[<-q1];exact q2);obtain⟨ba,oa,rfl,ea⟩:=Ac.at' (hA.mono ae) (j:=i) (e:=Bt x) (by simp[a0]);obtain⟨⟨p1,U⟩,q⟩:=x;simp only at Z Y;refine G.a ba oa A.length c1 i 3 n<|G.lU (some 3) ba (oa+i*3) (.agg #[.int .i64 p1,.string (mkS U),.string (mkS (Ae q))]) ea ?_;have step:∀ {u7:PH},PH.le u6 u7->Pw F (p1,U)=false->True:=fun _ _=>trivial;by_cases h0:0<=p1
  ·refine G.hT' p1 0 h0 ?_;obtain⟨k,f,aj,a4⟩:∃ (k:Nat) (f:Al),p1=(k:Int)/\F[k]?=some f:=by
    rcases Y with ⟨h1,_⟩|⟨k,f,h1,hf,_⟩
    ·simp only at h1;omega
    exact⟨k,f,h1,hf⟩
   subst aj;have ak:=(A05.1 a4).1;have ad:m6 b=some (.cells [Value.slice xa T.length xc,.slice V R.length W,.slice H F.length z,.int .i64 lab].toArray 30 (0,0)):=m.see t;refine G.f 30 b 0 2 2<|G.lM none b (0+2) (.slice H F.length z) ((a3 m6 ad).fld (j:=2) (xs:=#[.slice xa T.length xc,.slice V R.length W,.slice H F.length z,.int .i64 lab]) rfl rfl) ?_;obtain⟨fb,fo,rfl,ef⟩:=Ac.at' (ag.mono ae) (j:=k) (e:=Cm f) (by simp[a4]);refine G.a fb fo F.length z k 3 ak ?_;obtain⟨f1,f2,f3⟩:=f;refine G.f 100 fb (fo+k*3) 1 1<|G.lU none fb (fo+k*3+1) (.int .i64 f2) (ef.fld (j:=1) (xs:=#[.int .i64 f1,.int .i64 f2,.int .i64 f3]) rfl rfl) ?_;have a6:Pw F ((k:Int),U)=(f2==2):=by
    unfold Pw;simp only[A23,A02,a4,A4w];rw[decide_eq_true oV];rfl
   rw[a6]at Z;by_cases h2:f2=2
   ·rw[if_pos (by simpa using h2)]at Z;refine G.eT f2 2<|G.B 118 2 24 (.agg #[.int .i64 0,.string (mkS [])]) [.agg #[.int .i64 k,.string (mkS U)]] (K1 ((k:Int),U)) ?_;intro g7 u7 l7 e7;refine G.k 118 2 24 (.agg #[.int .i64 0,.string (mkS [])]) E _ [Ap ((k:Int),U)] _ g7 0 1 1 m e7 (K1 ((k:Int),U)) ?_;intro v8 m8 N;have e8:(Le F++J9 F A i).map Ap++[Ap ((k:Int),U)]=(Le F++J9 F A (i+1)).map Ap:=by rw[Z];simp
    rw[e8]at N;obtain⟨a8,c8,rfl⟩:=N.shape;rw[A03]at N⊢;exact G.i i<|G.b (X (i+1,(a8,c8)) _ _ _ cV (l6.trans l7) ⟨dV,N⟩ dV)
   rw[if_neg (by simpa using h2)]at Z;refine G.eF f2 2<|G.i i ?_;rw[<-Z]at m⊢;exact G.b (X (i+1,(pa,pc)) _ _ _ cV l6 ⟨dV,m⟩ dV)
  refine G.hF' p1 0 h0 ?_;have a6:Pw F (p1,U)=false:=by
   unfold Pw;rw[decide_eq_false h0];rfl
  rw[a6,if_neg mV]at Z;refine G.i i ?_;rw[<-Z]at m⊢;exact G.b (X (i+1,(pa,pc)) _ _ _ cV l6 ⟨dV,m⟩ dV)
 obtain rfl:i=A.length:=oV;refine G.lF A.length A.length ?_;have O:(Le F++J9 F A A.length).Nodup:=Aec (cA.srt.nodup Et);have a5:∀ p,p∈Le F++J9 F A A.length↔_:=fun p=>Anj (F:=F) cA (p:=p);have ab:(Le F++J9 F A A.length).length<=1000000:=by grind
 generalize Le F++J9 F A A.length=L at m O a5 ab;by_cases af:24<L.length
 ·exact G.gT L.length 24<|G.drop PH.mt kV (PH.mt_le _)<|G.r (.tuple #[.slice none 0 0,.int .i64 3]) ⟨rfl,.inl ⟨rfl,E6 Bk L,by rw[(Ir (c:=Bk) L).length_eq];exact af,Va Et O,fun p=>(Ir (c:=Bk) L).mem_iff.trans (a5 p)⟩⟩
 refine G.gF L.length 24<|G.callA _ _ kV kV call267 (By m6).symm (Ef m6) (Aq7 m O ab) ?_;rintro v7 u7 m7 l7 ⟨rfl,hS⟩ _;have hp:=Ir (c:=Bk) L;have b0:(E6 Bk L).length=L.length:=hp.length_eq;refine G.give _ _ _ kV hS (fun g=>.inl rfl) ?_;intro u8 l8 ah;exact G.drop PH.mt kV (PH.mt_le _)<|G.r (.tuple #[.slice pa L.length pc,.int .i64 0]) ⟨rfl,.inr ⟨_,E6 Bk L,rfl,ah,oV,Va Et O,fun p=>hp.mem_iff.trans (a5 p)⟩⟩
end
section
variable {A:List (Par×Rat)}{C:CF}{F:List Al}{i n:Nat}{p:Par}
def Hi (F:List Al)(A:List (Par×Rat))(i:Nat):List Par:=if (F.getD i (0,0,0)).2.1=1 then [Li i] else (A.map (·.1)).filter fun p=>p.1==(i:Int)
def He (F:List Al)(A:List (Par×Rat))(n:Nat):List Par:=(List.range n).flatMap (Hi F A)
def Tn (F:List Al)(A:List (Par×Rat))(n:Nat):He F A (n+1)=He F A n++Hi F A n:=by
 unfold He;rw[A5d,List.flatMap_append];simp
theorem Aa4 (h:p∈Hi F A i):p.1=(i:Int):=by
 unfold Hi at h;split at h
 ·simp at h;subst h;rfl
 grind
def Aqy (h:p∈He F A n):0<=p.1/\p.1<(n:Int):=by
 obtain⟨i,hi,hp⟩:=A57.1 h;have:=Aa4 hp;simp at hi;omega
def As1 {p q:Par}(h:p.1<q.1):Bk p q<0:=by
 unfold Bk Q1;rw[if_pos h,if_pos oV];omega
def Tu {F:List Al}{A:List (Par×Rat)}(e:Hb Bk (A.map (·.1))):∀ n,Hb Bk (He F A n)
 |0=>List.Pairwise.nil
 |n+1=>by
  rw[Tn];refine A35.2 ⟨Tu e n,?_,fun p hp q g=>?_⟩
  ·unfold Hi;split
   ·exact A6f _ _
   exact e.filter _
  have h:=Aqy hp;have j:=Aa4 g;exact As1 oV
theorem Aed (t:Can Bk C.s A)(E:∀ f∈F,f.2.1=1\/f.2.1=2):p∈He F A F.length↔(∃ (i:Nat) (f:Al),p=Li i/\F[i]?=some f/\f.2.1=1)\/(C.s p≠0/\∃ (i:Nat) (f:Al),p.1=(i:Int)/\F[i]?=some f/\f.2.1=2):=by
 have j:p∈A.map (·.1)↔C.s p≠0:=by
  constructor
  ·intro h;obtain⟨x,z,rfl⟩:=A1b.1 h;obtain⟨g,m⟩:=t.val x z;rw[<-g];exact m
  intro h;exact A3m fun u=>h (t.out p u)
 unfold He;rw[A57];constructor
 ·rintro⟨i,hi,hp⟩;unfold Hi at hp;split at hp
  ·grind
  grind
 rintro (⟨i,f,rfl,hf,g⟩|⟨h0,i,f,g,hf,m⟩)
 ·have e:F.getD i (0,0,0)=f:=by simp[A02,hf]
  refine⟨i,by simpa using (A05.1 hf).1,?_⟩;unfold Hi;rw[e,if_pos g];simp
 have e:F.getD i (0,0,0)=f:=by simp[A02,hf]
 refine⟨i,by simpa using (A05.1 hf).1,?_⟩;unfold Hi;rw[e,if_neg oV];exact A7a.2 ⟨j.2 h0,by simpa using g⟩
theorem Apt (n:Nat):(He F A n).length<=n*(A.length+1):=by
 induction n with
 |zero=>exact A1t _
 |succ n ih =>
  rw[Tn,A1d,A16,A3i];have:(Hi F A n).length<=A.length+1:=by
   unfold Hi;split
   ·simp
   grind
  omega
def Ho (A:List (Par×Rat))(i n:Nat):List Par:=((A.take n).map (·.1)).filter fun p=>p.1==(i:Int)
theorem Ain {x:Par×Rat}(h:A[n]?=some x):Ho A i (n+1)=if x.1.1=(i:Int) then Ho A i n++[x.1] else Ho A i n:=by
 unfold Ho;have e:A.take (n+1)=A.take n++[x]:=by rw[A1n,h];rfl
 by_cases g:x.1.1=(i:Int)
 ·grind
 grind
def Aml (A:List (Par×Rat))(i n:Nat):(Ho A i n).length<=A.length:=by
 refine A04 (A8d _ _) ?_;rw[A03,A1e];omega
def Aif {u:PH}{v w:Value}{T:List (List UInt8×Nat)}{R:List Br}{lab:Int}{K:Nat}(hX:H5 u v T R F lab)(ok:Bl u T R F lab)(hC:No u w C K)(sC:CFS C)(vC:CFV C)(hK:K<=10000)(hb:∀ p,C.s p≠0->Adm F lab p) :
 Fn0 prog 37 [v,w] u fun r Y=>Azr Y r F C:=by
 have al:=fun (Y:PH) (l:PH.le u Y)=>T2 (hX.mono l) (ok.mono l);have ap:=fun (Y:PH) (l:PH.le u Y)=>Ahu (hC.mono l) sC vC oV;have ad:∀ f∈F,f.2.1=1\/f.2.1=2:=fun f N=>by
  obtain⟨n,k,_,V,_⟩:=ok.feat.ok f N;rcases V with ⟨V,_⟩|⟨V,_⟩
  ·exact .inl V
  exact .inr V
 obtain⟨xa,xc,xb,xd,xe,xf,rfl,aw,av,ai⟩:=id hX;obtain⟨A,Q,a1,c1,a2,c2,rfl,hA,hQ,cA,cQ,kA,kQ⟩:=hC;have ax:=ok.f2;have ak:∀ n,n<=8->(He F A n).length<=100000:=fun n hn=>by
  have:=Apt (F:=F) (A:=A) n;have V:n*(A.length+1)<=8*(A.length+1):=A13 _ hn;omega
 refine Fn0.o func37<|G.c call45 (al u (PH.le_refl _)) ?_;rintro v1 u1 l1 rfl;refine G.nF 0 0<|G.c call92 (ap u1 l1) ?_;rintro v2 u2 l2 rfl;have aq:=l1.trans l2;refine G.l (ι:=Nat×(Option Addr×Nat)) (fun i=>[(2,.p 0 0),(3,.p 1 0),(7,sV i.2.1 (He F A i.1).length i.2.2),(26,sV xe F.length xf),(27,iV F.length),(28,iV i.1)])
  (fun _=>[(0,⟨30,[sV xa T.length xc,sV xb R.length xd,sV xe F.length xf,iV lab]⟩),(1,⟨38,[tV (Ae C.c),sV a1 A.length c1,sV a2 Q.length c2]⟩)])
  (fun i Y m'=>i.1<=F.length/\Af PH.mt m' (.slice i.2.1 (He F A i.1).length i.2.2) 118 2 ((He F A i.1).map Ap)) (fun i=>F.length-i.1) (0,(none,0)) ⟨oV,Af.nil _ _ _⟩ ?_
 rintro J ⟨i,⟨pa,pc⟩⟩ hJ u3 m3 l3 ⟨hi,I⟩;simp only at hi I hJ;have a0:=aq.trans l3;have ao:=ak i oV;by_cases ae:i<F.length
 ·refine G.lT i F.length ?_;obtain⟨f,a5⟩:∃ f,F[i]?=some f:=⟨_,A01 ae⟩;have ab:F.getD i (0,0,0)=f:=by simp[A02,a5]
  have hs:=Tn F A i;obtain⟨fb,fo,rfl,ef⟩:=Ac.at' (ai.mono a0) (j:=i) (e:=Cm f) (by simp[a5]);obtain⟨f1,f2,f3⟩:=f;refine G.a fb fo F.length xf i 3 ae<|G.lU (some 3) fb (fo+i*3) (.agg #[.int .i64 f1,.int .i64 f2,.int .i64 f3]) ef ?_;by_cases ac:f2=1
  ·have hp:Hi F A i = [Li i]:=by unfold Hi;rw[ab,if_pos ac]
   rw[hp]at hs;refine G.eT f2 1<|G.B 118 2 24 (.agg #[.int .i64 0,.string (mkS [])]) [.agg #[.int .i64 i,.string (mkS [])]] (K1 (Li i)) ?_;intro g6 u6 l6 e6;refine G.k 118 2 24 (.agg #[.int .i64 0,.string (mkS [])]) PH.mt ((He F A i).map Ap) [Ap (Li i)] _ g6 0 1 1 I e6 (K1 (Li i)) ?_;intro v7 m7 E;rw[show (He F A i).map Ap++[Ap (Li i)]=(He F A (i+1)).map Ap by rw[hs];simp]at E;obtain⟨a7,c7,rfl⟩:=E.shape;rw[A03]at E⊢;exact G.i i<|G.b (hJ (i+1,(a7,c7)) _ _ _ cV (l3.trans l6) ⟨dV,E⟩ dV)
  have hp:Hi F A i=Ho A i A.length:=by unfold Hi Ho;rw[ab,if_neg ac,A15]
  rw[hp]at hs;refine G.eF f2 1 ?_;have a8:Af PH.mt m3 (.slice pa (He F A i++Ho A i 0).length pc) 118 2 ((He F A i++Ho A i 0).map Ap):=by
   rw[show Ho A i 0 = [] from rfl,A1x];exact I
  have e0:(He F A i).length=(He F A i++Ho A i 0).length:=by rw[show Ho A i 0 = [] from rfl,A1x]
  rw[e0];refine G.l (ι:=Nat×(Option Addr×Nat)) (fun n=>[(2,.p 0 0),(3,.p 1 0),(7,sV n.2.1 (He F A i++Ho A i n.1).length n.2.2),(8,iV i),(26,sV (some ⟨fb,fo,none⟩) F.length xf),(27,iV F.length),(28,iV i),(42,sV a1 A.length c1),(43,iV A.length),(44,iV n.1)])
   (fun _=>[(0,⟨30,[sV xa T.length xc,sV xb R.length xd,sV (some ⟨fb,fo,none⟩) F.length xf,iV lab]⟩),(1,⟨38,[tV (Ae C.c),sV a1 A.length c1,sV a2 Q.length c2]⟩)])
   (fun n Y m'=>n.1<=A.length/\Af PH.mt m' (.slice n.2.1 (He F A i++Ho A i n.1).length n.2.2) 118 2 ((He F A i++Ho A i n.1).map Ap)) (fun n=>A.length-n.1) (0,(pa,pc)) ⟨oV,a8⟩ ?_
  clear I a8 e0;rintro J2 ⟨n,⟨pa,pc⟩⟩ H u4 m4 l4 ⟨hn,I⟩;simp only at hn I H;have az:=Aml A i n;by_cases O:n<A.length
  ·refine G.lT n A.length ?_;obtain⟨x,a4⟩:∃ x,A[n]?=some x:=⟨_,A01 O⟩;have P:=Ain (i:=i) a4;obtain⟨ba,oa,rfl,ea⟩:=Ac.at' (hA.mono (a0.trans l4)) (j:=n) (e:=Bt x) (by simp[a4]);obtain⟨⟨m,z⟩,q⟩:=x;simp only at P;refine G.a ba oa A.length c1 n 3 O<|G.lU (some 3) ba (oa+n*3) (.agg #[.int .i64 m,.string (mkS z),.string (mkS (Ae q))]) ea ?_;by_cases W:m=(i:Int)
   ·rw[if_pos W]at P;refine G.eT' m i W<|G.B 118 2 24 (.agg #[.int .i64 0,.string (mkS [])]) [.agg #[.int .i64 m,.string (mkS z)]] (K1 (m,z)) ?_;intro g6 u6 l6 e6;refine G.k 118 2 24 (.agg #[.int .i64 0,.string (mkS [])]) PH.mt ((He F A i++Ho A i n).map Ap) [Ap (m,z)] _ g6 0 1 1 I e6 (K1 (m,z)) ?_;intro v7 m7 E;rw[show (He F A i++Ho A i n).map Ap++[Ap (m,z)]=(He F A i++Ho A i (n+1)).map Ap by rw[P];simp]at E;obtain⟨a7,c7,rfl⟩:=E.shape;rw[A03]at E⊢;exact G.i n<|G.b (H (n+1,(a7,c7)) _ _ _ cV (l4.trans l6) ⟨dV,E⟩ dV)
   rw[if_neg W]at P;refine G.eF' m i W<|G.i n ?_;rw[<-P]at I⊢;exact G.b (H (n+1,(pa,pc)) _ _ _ cV l4 ⟨dV,I⟩ dV)
  obtain rfl:n=A.length:=oV;refine G.lF A.length A.length<|G.i i ?_;rw[<-hs]at I⊢;exact G.b (hJ (i+1,(pa,pc)) _ _ _ cV (l3.trans l4) ⟨dV,I⟩ dV)
 obtain rfl:i=F.length:=oV;refine G.lF F.length F.length ?_;clear hJ;have X:∀ p,p∈He F A F.length↔_:=fun p=>Aed (F:=F) cA ad (p:=p);have U:Hb Bk (He F A F.length):=Tu cA.srt _;generalize au:He F A F.length=L at I X U ao;have an:∀ x∈A,(x.1.1 = -1/\0<=lab/\x.1.2 = [])\/(0<=x.1.1/\x.1∈L):=fun x hx=>by
  obtain⟨q1,q2⟩:=cA.val x hx;have af:C.s x.1≠0:=by rw[<-q1];exact q2
  rcases hb x.1 af with h|⟨k,f,h1,N,h3⟩
  ·exact .inl h
  refine .inr ⟨oV,(X x.1).2 ?_⟩;rcases ad f (A1k N) with h4|h4
  ·refine .inl ⟨k,f,?_,N,h4⟩;obtain⟨⟨m,z⟩,q⟩:=x;simp only at h1 h3;rw[h1,h3.resolve_left oV];rfl
  exact .inr ⟨af,k,f,h1,N,h4⟩
 refine G.l (ι:=Nat) (fun i=>[(2,.p 0 0),(7,sV pa L.length pc),(61,sV a1 A.length c1),(62,iV A.length),(63,iV i)])
  (fun _=>[(0,⟨30,[sV xa T.length xc,sV xb R.length xd,sV xe F.length xf,iV lab]⟩)])
  (fun i Y m'=>i<=A.length/\m'=m3) (fun i=>A.length-i) 0 ⟨oV,rfl⟩ ?_
 rintro J i hJ u4 m4 l4 ⟨ay,rfl⟩;have ar:=a0.trans l4;by_cases Z:i<A.length
 ·refine G.lT i A.length ?_;obtain⟨x,a3⟩:∃ x,A[i]?=some x:=⟨_,A01 Z⟩;have hx:=an x (A1k a3);obtain⟨ba,oa,rfl,ea⟩:=Ac.at' (hA.mono ar) (j:=i) (e:=Bt x) (by simp[a3]);obtain⟨⟨m,z⟩,q⟩:=x;simp only at hx;refine G.a ba oa A.length c1 i 3 Z<|G.lU (some 3) ba (oa+i*3) (.agg #[.int .i64 m,.string (mkS z),.string (mkS (Ae q))]) ea ?_;rcases hx with ⟨h1,V,h3⟩|⟨h1,V⟩
  ·exact G.eT' m (-1) h1<|G.hT' lab 0 V<|G.q z [] h3<|G.i i<|G.b (hJ (i+1) _ _ _ cV l4 ⟨oV,rfl⟩ oV)
  refine G.eF m (-1)<|G.l (ι:=Nat×Bool) (fun n=>[(2,.p 0 0),(7,sV pa L.length pc),(13,.p 21002 0),(14,bV n.2),(61,sV (some ⟨ba,oa,none⟩) A.length c1),(62,iV A.length),(63,iV i),(82,sV pa L.length pc),(83,iV L.length),(84,iV n.1)])
   (fun _=>[(0,⟨30,[sV xa T.length xc,sV xb R.length xd,sV xe F.length xf,iV lab]⟩),(21002,⟨162,[iV m,tV z,tV (Ae q)]⟩)])
   (fun n Y m'=>n.1<=L.length/\m'=m4/\n.2=(L.take n.1).any fun y=>decide (y=(m,z))) (fun n=>L.length-n.1) (0,false) ⟨oV,rfl,rfl⟩ ?_
  rintro J2 ⟨n,ag⟩ H u5 m5 l5 ⟨hn,rfl,N⟩;simp only at hn N H;by_cases O:n<L.length
  ·refine G.lT n L.length ?_;obtain⟨y,a6⟩:∃ y,L[n]?=some y:=⟨_,A01 O⟩;have t:((L.take (n+1)).any fun y=>decide (y=(m,z)))=(((L.take n).any fun y=>decide (y=(m,z)))||decide (y=(m,z))):=by
    rw[A1n,a6,List.any_append];simp
   obtain⟨gs,cs,aa⟩:=I.ptr (fun e=>by
    have:L.length=0:=by simpa using congrArg List.length e
    omega)
   simp only[Value.slice.injEq]at aa;obtain⟨rfl,_,rfl⟩:=aa;have am:ElP m5 gs (0+n*2) (Ap y):=I.el (by rw[A1a,a6];rfl);refine G.a gs 0 L.length pc n 2 O<|G.lM (some 2) gs (0+n*2) (.agg #[.int .i64 y.1,.string (mkS y.2)]) am ?_;cases ag with
   |true =>
    refine G.i n ?_;rw[<-N,Bool.true_or]at t;exact G.b (H (n+1,true) _ _ _ cV l5 ⟨dV,rfl,t.symm⟩ dV)
   |false =>
    rw[<-N,A80]at t;by_cases W:y=(m,z)
    ·rw[decide_eq_true W]at t;exact G.eqAgg 118 #[.int .i64 y.1,.string (mkS y.2)] #[.int .i64 m,.string (mkS z)] true kV kV kV (fun w=>by rw[<-decide_eq_true W];exact Bq.eq y (m,z) w)<|G.i n<|G.b (H (n+1,true) _ _ _ cV l5 ⟨dV,rfl,t.symm⟩ dV)
    rw[decide_eq_false W]at t;exact G.eqAgg 118 #[.int .i64 y.1,.string (mkS y.2)] #[.int .i64 m,.string (mkS z)] false kV kV kV (fun w=>by rw[<-decide_eq_false W];exact Bq.eq y (m,z) w)<|G.i n<|G.b (H (n+1,false) _ _ _ cV l5 ⟨dV,rfl,t.symm⟩ dV)
  obtain rfl:n=L.length:=oV;refine G.lF L.length L.length ?_;have a9:((L.take L.length).any fun y=>decide (y=(m,z)))=true:=by
   rw[A15];exact A5h.2 ⟨_,V,mV⟩
  rw[a9]at N;subst N;exact G.i i<|G.b (hJ (i+1) _ _ _ cV (l4.trans l5) ⟨oV,rfl⟩ oV)
 obtain rfl:i=A.length:=oV;refine G.lF A.length A.length ?_;by_cases ah:24<L.length
 ·exact G.gT L.length 24<|G.drop PH.mt kV (PH.mt_le _)<|G.r (.tuple #[.slice none 0 0,.int .i64 3]) ⟨rfl,.inl ⟨rfl,L,ah,U,X⟩⟩
 refine G.gF L.length 24<|G.give _ _ _ kV I (fun g=>.inl rfl) ?_;intro u8 l8 aj;exact G.r (.tuple #[.slice pa L.length pc,.int .i64 0]) ⟨rfl,.inr ⟨_,L,rfl,aj,oV,U,X⟩⟩
end
section
variable [Cl] [Co]
end
def cfE (m0:Rat)(M:List (Par×Rat)):Option Par->Rat
 |none=>m0
 |some p=>Fo p M
structure Te (u:PH)(v cv:Value)(T:List (List UInt8×Nat))(R:List Br)(F:List Al)(lab:Int)(C:CF)(K k:Nat)(P:List Par):Prop where
 sch:H5 u v T R F lab
 ok:Bl u T R F lab
 cof:No u cv C K
 sC:CFS C
 vC:CFV C
 K:K<=10000
 bel:∀ p,C.s p≠0->Adm F lab p
 mom:Ai6 C k
 prm:Nn F C P
 p24:P.length<=24
 lab0:0<=lab
 d:CFD 16 (10^75) C
def Te.mono {u j:PH}{v g:Value}{T:List (List UInt8×Nat)}{R:List Br}{F:List Al}{lab:Int}{C:CF}{K k:Nat}{P:List Par}(h:Te u v g T R F lab C K k P)(e:PH.le u j):Te j v g T R F lab C K k P :=
 ⟨h.sch.mono e,h.ok.mono e,h.cof.mono e,h.sC,h.vC,h.K,h.bel,h.mom,h.prm,h.p24,h.lab0,h.d⟩
def CFD.to {d e N M:Nat}{F:CF}(h:CFD d N F)(g:d<=e)(j:N*12^(e-d)<=M):CFD e M F:=⟨h.c.to g j,fun p=>(h.s p).to g j,fun q=>(h.t q).to g j⟩
theorem A0j {q n d j:Rat}(e:q=n*j)(hi:d*j=1):q*d=n:=by rw[e];grind
section
variable {F:List Al}{lab:Int}{p:Par}{ss:List (List UInt8)}
def Ak0 {p:Par}:∀ (L:List LF) (C:CF),(Iv C L).s p≠0->C.s p≠0\/∃ q,some (some (p,q))∈L
 |[],C,h=>.inl h
 |x::L,C,h=>by
  rcases Ak0 L (C.mul x.cf) h with n|⟨q,t⟩
  ·rcases G1 (a:=x.cf.s p*C.c) (b:=C.s p*x.cf.c) n with j|j
   ·right;have g:=(C1 j).1
    match x,g with
    |none,g=>exact absurd rfl g
    |some none,g=>exact absurd rfl g
    |some (some (p',q)),g =>
     have m:(if p=p' then q else 0)≠0:=g;by_cases e:p=p'
     ·subst e;exact⟨q,A4l ..⟩
     rw[if_neg e]at m;exact absurd rfl m
   exact .inl (C1 j).1
  exact .inr ⟨q,A2f _ t⟩
def Yf (h:(cfT F lab ss).s p≠0):Adm F lab p/\∃ (a:Nat) (q:Rat),(Fh F lab ss)[a]?=some (some (some (p,q)))/\∀ (i:Nat) (f:Al),p.1=(i:Int)->F[i]?=some f->f.2.1=2->q=1:=by
 rcases Ak0 _ _ h with h|⟨q,P⟩
 ·exact absurd rfl h
 obtain⟨a,z,C⟩:=A2y P;have H:a<ss.length:=by rw[G3]at z;exact z
 have e:=Hg (F:=F) (lab:=lab) (w:=ss[a]) (A01 H);have m:Gm F lab a ss[a]=some (some (p,q)):=by
  rw[A01 z,C]at e;exact (A28 e).symm
 have u:(Fh F lab ss)[a]?=some (some (some (p,q))):=by rw[e,m]
 generalize ss[a]=w at m;by_cases J:(a:Int)=lab
 ·have K:Gm F lab a w=Sy w:=by unfold Gm;rw[if_pos J]
  rw[K]at m;unfold Sy at m;split at m
  ·cases m
  simp only[A1f,A2i]at m;obtain⟨rfl,_⟩:=m;exact⟨.inl ⟨rfl,oV,rfl⟩,a,q,u,fun i f n=>by simp only at n;omega⟩
 rcases Gn (F:=F) (w:=w) J with n|⟨i,f,E,O,n⟩
 ·rw[n]at m;cases m
 rw[n]at m;unfold I3 at m;by_cases t:f.2.1=2
 ·rw[if_pos t]at m;simp only[A1f,A2i]at m;obtain⟨rfl,rfl⟩:=m;exact⟨.inr ⟨i,f,rfl,E,.inl t⟩,a,_,u,fun _ _ _ _ _=>rfl⟩
 rw[if_neg t]at m;split at m
 ·split at m<;>cases m
 simp only[A1f,A2i]at m;obtain⟨rfl,_⟩:=m;refine⟨.inr ⟨i,f,rfl,E,.inr rfl⟩,a,q,u,fun j g L I N=>?_⟩;simp only at L;obtain rfl:i=j:=oV;rw[E]at I;cases I;exact absurd N t
theorem Aj4 :∀ {L:List Dm},(Cf F lab L).s p≠0->∃ y∈L,(cfT F lab y.1).s p≠0:=by
 intro L;induction L using Ig with
 |h0=>exact fun h=>absurd rfl h
 |h1 L y ih =>
  intro h;rw[Eb]at h;rcases G1 (a:=(Cf F lab L).s p) (b:=(cfT F lab y.1).s p*(y.2.1:Rat)) h with h1|h1
  ·obtain⟨z,hz,h2⟩:=ih h1;exact⟨z,A24 _ hz,h2⟩
  ·exact⟨y,mV,(C1 h1).1⟩
def Awc {T:List (List UInt8×Nat)}{i:Nat}{f:Al}(hF:Da T F lab)(m:Bw T ss)(g:-1<=lab)(j:∀ l:Nat,lab=(l:Int)->l<ss.length)(hp:p.1=(i:Int))(t:F[i]?=some f)(u:f.2.1=2):(cfT F lab ss).s p=0\/(cfT F lab ss).s p=1:=by
 by_cases h:(cfT F lab ss).s p=0
 ·exact .inl h
 right;obtain⟨_,a,q,n,z⟩:=Yf h;have e:=z i f hp t u;subst e;cases hc:G4 F lab ss with
 |true=>exact Tv hF m g j hc n
 |false=>rw[Ajl hF m g j hc]at h;exact absurd rfl h
theorem Asv :∀ {L:List Dm},(∀ y∈L,1<=y.2.1/\((cfT F lab y.1).s p=0\/(cfT F lab y.1).s p=1))->∃ k:Nat,(Cf F lab L).s p=(k:Rat)/\((∃ y∈L,(cfT F lab y.1).s p=1)->0<k):=by
 intro L;induction L using Ig with
 |h0=>exact fun _=>⟨0,rfl,fun⟨y,hy,_⟩=>by simp at hy⟩
 |h1 L y ih =>
  intro h;obtain⟨k,hk,hpos⟩:=ih fun z hz=>h z (A24 _ hz);obtain⟨hw,hy⟩:=h y mV;rw[Eb];show ∃ k:Nat,(Cf F lab L).s p+(cfT F lab y.1).s p*(y.2.1:Rat)=(k:Rat)/\_;rw[hk];rcases hy with e|e
  ·refine⟨k,by rw[e];grind,fun⟨z,hz,h1⟩=>hpos ?_⟩;rcases A1h.1 hz with hz|hz
   ·exact⟨z,hz,h1⟩
   ·simp only[A12]at hz;subst hz;rw[e]at h1;exact absurd h1 fV
  ·exact⟨k+y.2.1,by rw[e,Rat.natCast_add];grind,fun _=>oV⟩
def Aln {u:PH}{T:List (List UInt8×Nat)}{R:List Br}{F:List Al}{lab:Int}{L:List Dm}{y:Dm}{x:Par×Rat}{P:List Par}(ok:Bl u T R F lab)(t:∀ y∈L,Bw T y.1/\1<=y.2.1)(J:y∈L)(O:G4 F lab y.1=true)
 (N:∀ p,p∈P↔(∃ (i:Nat) (f:Al),p=Li i/\F[i]?=some f/\f.2.1=1)\/((Cf F lab L).s p≠0/\∃ (i:Nat) (f:Al),p.1=(i:Int)/\F[i]?=some f/\f.2.1=2)) (Y:x∈Dx F y.1 F.length):x.1∈P:=by
 have E:∀ z∈L,∀ l:Nat,lab=(l:Int)->l<z.1.length:=fun z I l U=>by
  obtain⟨n,V⟩:=ok.l2 l U;have Z:=(A05.1 V).1;have:=(t z I).1.len;omega
 obtain⟨i,f,hi,C,j⟩:=F9.1 Y;have h:=Qq (lab:=lab) ok.feat (t y J).1 C;obtain⟨n,kd,hT,g,W⟩:=ok.feat.ok f (A1k C);unfold Jf at j;unfold I3 at h;by_cases m:f.2.1=2
 ·rw[if_pos m]at j h;cases j;refine (N _).2 (.inr ⟨?_,i,f,rfl,C,m⟩);have X:=Tv ok.feat (t y J).1 ok.l1 (E y J) O h;obtain⟨k,Q,H⟩:=Asv (F:=F) (lab:=lab) (p:=((i:Int),y.1.getD f.1 [])) (L:=L) fun z I=>⟨(t z I).2,Awc ok.feat (t z I).1 ok.l1 (E z I) rfl C m⟩;have h0:=H ⟨y,J,X⟩;show (Cf F lab L).s ((i:Int),y.1.getD f.1 [])≠0;rw[Q];intro e;have:k=0:=by exact_mod_cast e
  omega
 rw[if_neg m]at j;split at j
 ·cases j
 cases j;refine (N _).2 (.inl ⟨i,f,rfl,C,?_⟩);rcases g with ⟨K,_⟩|⟨K,_⟩
 ·exact K
 exact absurd K m
end
def Az0:Ag0 (CF.num 0):=⟨rfl,fun _=>rfl,fun _=>rfl⟩
def Afe:SmW 0:=⟨jV,jV⟩
def Acn {T:List (List UInt8×Nat)}{F:List Al}{lab:Int}{ss:List (List UInt8)}(hF:Da T F lab)(m:Bw T ss)(n:-1<=lab)(z:∀ l:Nat,lab=(l:Int)->l<ss.length)(C:G4 F lab ss=true){p:Par}(hp:0<=p.1):(cfT F lab ss).s p=Fo p (Dx F ss F.length):=by
 have u:=Nb F ss F.length (A08 _);by_cases h:(cfT F lab ss).s p=0
 ·rw[h];refine (Na fun g=>?_).symm;obtain⟨x,I,rfl⟩:=A1b.1 g;obtain⟨H,a,j⟩:=An5 (lab:=lab) hF m I;exact H ((Tv hF m n z C (p:=x.1) (q:=x.2) j).symm.trans h)
 obtain⟨_,a,q,j,_⟩:=Yf h;have E:=Tv hF m n z C j;rw[E]at h;rcases A1h.1 (As8 hF m n j h fun l _ e=>by
  rw[e];exact (Um (Aa7 (t:=[48]) ⟨0,Afe,Fz.symm⟩).2).2 rfl) with g|g
 ·unfold Ax2 at g;split at g
  ·simp only[A12,A2i]at g;obtain⟨rfl,_⟩:=g;simp only at hp;omega
  simp at g
 rw[E];exact (Kh (a:=p) (q:=q) u g).symm
def Bb (n:Nat)(f:Nat->Rat):Rat:=B9 f (List.range n)
def Ds (n:Nat)(f:Nat->Rat):Bb (n+1) f=Bb n f+f n:=by unfold Bb;rw[A5d,Ang]
def Uk (f:Nat->Rat):Bb 0 f=0:=rfl
def Ah {n:Nat}{f g:Nat->Rat}(h:∀ i,i<n->f i=g i):Bb n f=Bb n g:=Dt fun i hi=>h i (A6q.1 hi)
theorem Y8 (n:Nat)(f g:Nat->Rat):Bb n (fun i=>f i-g i)=Bb n f-Bb n g:=by
 induction n with
 |zero=>show (0:Rat)=0-0;decide +kernel
 |succ n ih=>rw[Ds,Ds,Ds,ih];grind
def B4 (k:Rat)(n:Nat)(f:Nat->Rat):Bb n (fun i=>k*f i)=k*Bb n f:=Ji k _
section
def Z2 {α β:Type}(f:α->β->Rat):∀ (l:List α) (k:List β),B9 (fun a=>B9 (fun b=>f a b) k) l=B9 (fun b=>B9 (fun a=>f a b) l) k
 |[],k=>(Fv fun _ _=>rfl).symm
 |a::l,k=>by
  show B9 (fun b=>f a b) k+B9 (fun a=>B9 (fun b=>f a b) k) l=B9 (fun b=>f a b+B9 (fun a=>f a b) l) k;rw[Z2 f l k,L7]
theorem Acs {α:Type}{f:α->Rat}:∀ {l:List α},(∀ a∈l,0<=f a)->0<=B9 f l
 |[],_=>Rat.le_refl
 |a::l,h=>by
  have g:=h a (A4l ..);have j:=Acs fun x e=>h x (A2f _ e);show 0<=f a+B9 f l;grind
theorem Ww {α:Type}{f:α->Rat}:∀ {l:List α},(∀ a∈l,0<=f a)->B9 f l=0->∀ a∈l,f a=0
 |[],_,_,a,g=>by cases g
 |x::l,h,e,a,g=>by
  have n:=h x (A4l ..);have t:=Acs fun y j=>h y (A2f _ j);have m:f x+B9 f l=0:=e;rcases A1g.1 g with rfl|g
  ·grind
  exact Ww (fun y j=>h y (A2f _ j)) (by grind) a g
def Ajc (C:CF)(e f:Option Par):As C e f=As C f e:=by
 cases e<;>cases f<;>simp only[As]<;>rw[Wi]
section
variable {P:List Par} {C:CF} {b d z:Option Par->Rat} {k:Rat}
def P7 (k:Rat)(b:Option Par->Rat):Option Par->Rat
 |none=>0
 |some p=>k*b (some p)
def Vn (P:List Par)(b:Option Par->Rat):Rat:=B9 (fun p=>b (some p)*b (some p)) P
def As4 (z b:Option Par->Rat)(P:List Par)(C:CF):Rat:=B9 (fun e=>z e*B9 (fun f=>As C e f*b f) (An P)) (An P)
theorem Zz (b:Option Par->Rat):Dh b P C=As4 b b P C:=by
 exact Dt fun e _=>by rw[<-Ji];exact Dt fun f _=>by grind
def S6 (f:Option Par->Rat):B9 f (An P)=f none+B9 (fun p=>f (some p)) P:=by
 unfold An;show f none+_=_;rw[So]
theorem Arq (P:List Par)(b:Option Par->Rat):0<=Vn P b:=Acs fun p _=>by
 rcases A9g (a:=0) (b:=b (some p)) with h|h
 ·exact A4o h h
 have:=A4o (a:=-b (some p)) (b:=-b (some p)) (by grind) (by grind);grind
theorem Ast (I:0<k)(K:0<C.c)(hp:∀ z,0<=Dh z P C)(j:∀ e∈An P,B9 (fun f=>As C e f*z f) (An P)+P7 k z e=0):∀ e∈An P,z e=0:=by
 have t:As4 z z P C+k*Vn P z=0:=by
  have:As4 z z P C=B9 (fun e=>(-1)*(z e*P7 k z e)) (An P):=Dt fun e g=>by have:=j e g;grind
  rw[this,Ji,S6];have n:B9 (fun p=>z (some p)*P7 k z (some p)) P=k*Vn P z:=by unfold Vn;rw[<-Ji];exact Dt fun p _=>by unfold P7;grind
  rw[n];unfold P7;grind
 rw[<-Zz]at t;have u:=Arq P z;have J:=A4o (Bat I) u;have E:Vn P z=0:=by
  have:k*Vn P z=0:=by grind
  rcases A40.1 this with e|e
  ·grind
  exact e
 have F:∀ p∈P,z (some p)=0:=fun p hp=>by
  have:=Ww (fun q _=>by
   rcases A9g (a:=0) (b:=z (some q)) with h|h
   ·exact A4o h h
   have:=A4o (a:=-z (some q)) (b:=-z (some q)) (by grind) (by grind);grind) E p hp
  rcases A40.1 this with e|e<;>exact e
 have H:z none=0:=by
  have:=j none (by unfold An;simp);rw[S6,Fv fun p hp=>by rw[F p hp,Bau]]at this;have e:C.c*z none=0:=by
   have m:As C none none=C.c:=rfl;rw[m]at this;unfold P7 at this;grind
  rcases A40.1 e with e|e
  ·grind
  exact e
 intro e g;rcases A1g.1 g with rfl|g
 ·exact H
 grind
end
theorem Af3 {T:List (List UInt8×Nat)}{F:List Al}{lab:Int}(hF:Da T F lab)(h1:-1<=lab)(h2:∀ l:Nat,lab=(l:Int)->l<T.length)(z:Option Par->Rat)(P:List Par):∀ {L:List Dm},(∀ y∈L,Bw T y.1)->0<=Dh z P (Cf F lab L):=by
 intro L;induction L using Ig with
 |h0=>exact fun _=>by show 0<=Dh z P (CF.num 0);rw[Az0.norm z P];exact Rat.le_refl
 |h1 L y ih =>
  intro h;have i1:=ih fun z hz=>h z (A24 _ hz);have hy:=h y mV;have hlen:=hy.len;rw[Eb,Am0];rcases Pf hF hy h1 (fun l hl=>by have:=h2 l hl;omega) with ⟨_,o⟩|⟨_,o⟩
  ·rw[o.norm];generalize Anc z P (cfT F lab y.1).s=v;have hw:(0:Rat)<=(y.2.1:Rat):=by grind
   have hv:0<=v*v:=by
    rcases A9g (a:=0) (b:=v) with h|h
    ·exact A4o h h
    ·have:=A4o (a:=-v) (b:=-v) (by grind) (by grind);grind
   have:=A4o hv hw;grind
  ·rw[o.norm];grind
end
section
variable {F:List Al}{n:Nat}
section
variable {P:Program} [A6 P] {fn:Func} {Post:Ce} {st:List KI×S} {u m:PH}
def G.storeE {t:TypeId}(sz i:Nat)(m0:PH)(es:List Value)(g n c j:Nat)(e J x:Value)(h:Aj P (adv P st)=.store (some 1) (.pointer (some ⟨g,0+j*sz+i,none⟩)) x)(ha:Af m0 m (.slice (some ⟨g,0,none⟩) n c) t sz es)(hj:es[j]?=some e)(hi:i<sz)(Q:J.cells.toList=e.cells.toList.set i x)(T:x.cells = #[x])(N:Ax x=true)
 (k:∀ X,Af m0 X (.slice (some ⟨g,0,none⟩) n c) t sz (es.set j J)->G P fn Post (nx (adv P st) undef) u X):G P fn Post st u m:=by
 obtain⟨z,hh⟩:=ha;obtain⟨C,rfl⟩:=A05.1 hj;rcases hh with ⟨hn,_,_⟩|⟨g',cap,rest,h0,rfl,W,hc,hl,V⟩
 ·cases hn
 simp only[Value.slice.injEq,A1f,Addr.mk.injEq]at W;obtain⟨⟨rfl,_⟩,rfl,rfl⟩:=W;have L:=(z _ (A09 C)).1;have O:=(z _ (A09 C)).2;have K:=Ba z;have a0:j*sz+sz<=es.length*sz:=by
  have:=A13 sz C;rw[Nat.succ_mul]at this;exact this
 have H:J.cells.size=sz:=by
  rw[<-A3o,Q,A21,A3o];exact L
 have I:A9 sz (es.set j J):=z.set ⟨H,fun y E=>by
  rw[Q]at E;rcases A7c E with E|rfl
  ·exact O y E
  exact N⟩
 refine G.storeM 1 g (0+j*sz+i) t (A2 es++rest) x h (Ab _ _ _) (fun y E=>?_) (by rw[A1d,K];omega) (by rw[T];rfl) (by rw[T];simp[N]) ?_
 ·rcases A1h.1 E with E|E
  ·exact Fu z y E
  exact V y E
 rw[Dp];have Z:(A2 es++rest).take (0+j*sz+i)++x.cells.toList++(A2 es++rest).drop (0+j*sz+i+1)=A2 (es.set j J)++rest:=by
  have h1:A2 (es.set j J)=(A2 es).set (j*sz+i) x:=by
   have q1:=Rp (e:=J) z H C;have Y:=Rp (e:=es[j]) z L C;rw[A9w]at Y;rw[q1,Q]
   conv=>rhs;rw[Y]
   have R:((A2 es).take (j*sz)).length=j*sz:=by rw[A1e,K];omega
   have U:es[j].cells.toList.length=sz:=by simpa using L
   rw[A2k,A2k,A4t _ _ oV,R,Nat.add_sub_cancel_left,A8n _ _ oV]
  have h2:(A2 es++rest).set (j*sz+i) x=(A2 es).set (j*sz+i) x++rest:=A8n _ _ oV;rw[h1,<-h2,List.set_eq_take_append_cons_drop,if_pos (by rw[A1d];omega),T,A2w];simp
 rw[Z];refine k _ ⟨I,.inr ⟨g,c,rest,h0,rfl,by rw[A21],by rw[A21];exact hc,?_,V⟩⟩;rw[A1d,Ba I,A21,<-K,<-A1d];exact hl
end
def Az6 {u:PH}{v:Value}{a:Nat}(h:Ac u v 3 (F.map Cm))(V:F.length<=1000000):Fn0 prog 105 [v,.int .i64 a] u fun r _=>r=.bool (F.any fun f=>f.1==a):=by
 obtain⟨xa,xc,rfl⟩:=h.opn;rw[A03]at h⊢;refine Fn0.o func105<|G.l (ι:=Nat) (fun i=>[(1,iV a),(7,sV xa F.length xc),(8,iV F.length),(9,iV i)]) (fun _=>[])
  (fun i X R=>i<=F.length/\(∀ j f,j<i->F[j]?=some f->f.1≠a)/\R=PH.mt) (fun i=>F.length-i) 0 ⟨oV,fun j f C=>oV,rfl⟩ ?_
 rintro J i O Y W l2 ⟨hi,h0,rfl⟩;by_cases z:i<F.length
 ·refine G.lT i F.length ?_;obtain⟨f,t⟩:∃ f,F[i]?=some f:=⟨_,A01 z⟩;obtain⟨I,K,rfl,N⟩:=Ac.at' (h.mono l2) (j:=i) (e:=Cm f) (by simp[t]);obtain⟨E,T,U⟩:=f;refine G.a I K F.length xc i 3 z<|G.lU (some 3) I (K+i*3) (.agg #[.int .i64 E,.int .i64 T,.int .i64 U]) N ?_;by_cases L:E=a
  ·refine G.eT E a ?_;exact G.r (.bool true) ⟨rfl,by
    rw[A5h.2 ⟨_,A1k t,by simpa using L⟩]⟩
  refine G.eF E a<|G.i i ?_;exact G.b (O (i+1) _ _ _ cV l2 ⟨oV,fun j g C H=>by
   rcases (by omega:j<i\/j=i) with e|rfl
   ·exact h0 j g e H
   rw[t]at H;cases H;exact L,rfl⟩ oV)
 obtain rfl:i=F.length:=oV;refine G.lF F.length F.length ?_;exact G.r (.bool false) ⟨rfl,by
  rw[A6p.2 fun f Q=>by
   obtain⟨j,C,rfl⟩:=A2y Q;simpa using h0 j _ C (A01 C)]⟩
def nmB (j:Nat):List UInt8:=[98]++[Zq j]
def Asb {j:Nat}(h:j<26):Hn (nmB j)=true:=by
 have e:∀ n:Fin 26,Hn (nmB n.val)=true:=jV
 exact e ⟨j,h⟩
theorem Au6 {l:List Nat}(h1:∀ a∈l,a<n)(h2:∀ (k:Nat) x y,l[k]?=some x->l[k+1]?=some y->x<y):l.length<=n:=by
 have h:∀ k (hk:k<l.length),k<=l[k]:=by
  intro k;induction k with
  |zero=>intro _;omega
  |succ k ih =>
   intro hk;have:=ih oV;have:=h2 k _ _ (A01 oV) (A01 hk);omega
 rcases A2a l.length with e|e
 ·omega
 ·have h3:=h (l.length-1) oV;have h4:=h1 _ (A09 (show l.length-1<l.length by omega));omega
def Aph {u K:PH}{z:List Br}{r:Br}{H:Option Addr}{I:Nat}(h:Py u n (z++[r]))(O:PH.le u K)(Q:n<=900)(N:Ac K (.slice H (r.2.1++[n]).length I) 1 (Ai (r.2.1++[n]))):Py K (n+1) (z++[(r.1,r.2.1++[n],(H,I))]):=by
 have E:r∈z++[r]:=mV;have h0:∀ x∈z,x∈z++[r]:=fun x g=>A24 _ g;have split:∀ x,x∈z++[(r.1,r.2.1++[n],(H,I))]->x∈z\/x=(r.1,r.2.1++[n],(H,I)):=fun x g=>by
  rcases A1h.1 g with g|g
  ·exact .inl g
  exact .inr (by simpa using g)
 refine⟨?_,?_,?_,?_,?_,?_,?_⟩
 ·have:=h.names;rw[A1i]at this⊢;exact this
 ·intro x g;rcases split x g with g|rfl
  ·exact h.ne x (h0 x g)
  simp
 ·intro x g a j;rcases split x g with g|rfl
  ·have:=h.lt x (h0 x g) a j;omega
  rcases A1h.1 j with j|j
  ·have:=h.lt r E a j;omega
  simp at j;omega
 ·intro x g;rcases split x g with g|rfl
  ·exact h.len x (h0 x g)
  have:=Au6 (h.lt r E) (h.asc r E);simp only[A1d,A20];omega
 ·intro x g k a b j t;rcases split x g with g|rfl
  ·exact h.asc x (h0 x g) k a b j t
  simp only at j t;rcases A2e (k+1) r.2.1.length with L|L
  ·rw[A1r oV]at j t;exact h.asc r E k a b j t
  rw[A18 L]at t;have J:k+1-r.2.1.length=0:=by
   obtain⟨q,_⟩:=A05.1 t;simp at q;omega
  rw[J]at t;simp at t;subst t;rw[A1r oV]at j;exact h.lt r E a (A1k j)
 ·intro a j;by_cases e:a=n
  ·subst e;exact⟨_,by simp;right;rfl,mV⟩
  obtain⟨x,g,C⟩:=h.all a oV;rcases A1h.1 g with g|g
  ·exact⟨x,A24 _ g,C⟩
  simp at g;subst g;exact⟨_,by simp;right;rfl,A24 _ C⟩
 intro x g;rcases split x g with g|rfl
 ·exact (h.at' x (h0 x g)).mono O
 exact N
def Aqc {u H:PH}{T:List (List UInt8×Nat)}{R C:List Br}{lab:Int}(ok:Bl u T R F lab)(hT:T.length<=11)(N:∀ a∈T,a.1≠nmB T.length)(J:Py H (T.length+1) C)(z:C.length=R.length):Bl H (T++[(nmB T.length,2)]) C F lab:=by
 have O:=Asb (j:=T.length) oV;refine⟨⟨⟨?_,?_⟩,?_⟩,?_,⟨?_,ok.feat.nodup⟩,?_,?_,?_,?_,ok.f2,ok.l1,?_⟩
 ·intro s h;rw[A1i]at h;rcases A1h.1 h with h|h
  ·exact ok.att.names.word s h
  simp at h;subst h;exact O
 ·rw[A1i,A4p];refine⟨ok.att.names.nodup,mV,fun a g b E e=>?_⟩;simp at E;obtain⟨x,Q,rfl⟩:=A1b.1 g;exact N x Q (e.trans E)
 ·intro a g;rcases A1h.1 g with g|g
  ·exact ok.att.kind a g
  simp at g;subst g;exact⟨mV,mV⟩
 ·rw[A1d];exact J
 ·intro f K;obtain⟨n,k,t,I⟩:=ok.feat.ok f K;exact⟨n,k,by rw[A1r (A05.1 t).1];exact t,I⟩
 ·rw[A1d];simp
 ·rw[A1d];simp;omega
 ·rw[z];exact ok.r1
 ·rw[z];exact ok.r2
 intro l L;obtain⟨n,t⟩:=ok.l2 l L;exact⟨n,by rw[A1r (A05.1 t).1];exact t⟩
end
def W8 (T:List (List UInt8×Nat)):A9 2 (T.map D9):=by
 intro e h;obtain⟨x,_,rfl⟩:=A1b.1 h;exact⟨rfl,fun y g=>by simp[D9,Value.cells]at g;rcases g with rfl|rfl<;>rfl⟩
def Ar6 (R:List Br):A9 2 (R.map Hs):=by
 intro e g;obtain⟨x,_,rfl⟩:=A1b.1 g;exact Sh x _ mV
def Aww {u:PH}{v:Value}{T:List (List UInt8×Nat)}{R:List Br}{F:List Al}{lab:Int}(hX:H5 u v T R F lab)(ok:Bl u T R F lab)(hT:T.length<=11)(hn:∀ a∈T,a.1≠nmB T.length) :
 Fn0 prog 106 [v,.int .i64 2] u fun r u'=>∃ R',H5 u' r (T++[(nmB T.length,2)]) R' F lab/\Bl u' (T++[(nmB T.length,2)]) R' F lab:=by
 obtain⟨xa,xc,xb,xd,xe,xf,rfl,a3,a2,Z⟩:=hX;have r1:=ok.r1;have r2:=ok.r2;obtain⟨h,r,rfl⟩:∃ h r,R=h++[r]:=⟨R.dropLast,R.getLast (fun e=>by rw[e]at r1;simp at r1),(List.dropLast_concat_getLast _).symm⟩;have a9:=ok.rel.at' r mV;have ae:=ok.rel.len r mV;refine Fn0.o func106<|G.appendL 96 2 24 (.agg #[.string (mkS []),.int .i64 0]) PH.mt [] (T.map D9) (.slice none 0 0) xa T.length xc kV rfl rfl oV (Af.nil _ _ _) a3 (W8 T) gV gV ?_;intro v1 m1 H;rw[A3q]at H;obtain⟨a1,c1,rfl⟩:=H.shape;rw[A03]at H⊢;refine G.c call182 (S0 (p:=[98]) (i:=T.length) oV mV) ?_;rintro v2 u2 l2 rfl;refine G.B 96 2 24 (.agg #[.string (mkS []),.int .i64 0]) [.agg #[.string (mkS ([98]++[Zq T.length])),.int .i64 2]] (W8 [(nmB T.length,2)]) ?_;intro g3 u3 l3 e3;refine G.k 96 2 24 (.agg #[.string (mkS []),.int .i64 0]) PH.mt (T.map D9) [D9 (nmB T.length,2)] (.slice a1 T.length c1) g3 0 1 1 H e3 (W8 [(nmB T.length,2)]) ?_;intro v4 m4 I;rw[show T.map D9++[D9 (nmB T.length,2)]=(T++[(nmB T.length,2)]).map D9 by rw[A1i];rfl]at I;obtain⟨a4,c4,rfl⟩:=I.shape;rw[A03]at I⊢;refine G.appendL 98 2 40 (.agg #[.string (mkS []),.slice none 0 0]) m4 [] ((h++[r]).map Hs) (.slice none 0 0) xb (h++[r]).length xd kV rfl rfl oV (Af.nil _ _ _) (a2.mono (l2.trans l3)) (Ar6 _) (by rw[A03];simp at r2⊢;omega) (by rw[A03];simp at r2⊢;omega) ?_;intro v5 m5 n;rw[A3q]at n;obtain⟨E,P,rfl⟩:=n.ptr mV;rw[A03]at n⊢;have ad:(h++[r]).length=h.length+1:=mV
 refine G.s ((h++[r]).length:Int) 1 (h.length:Int)<|G.a E 0 (h++[r]).length P h.length 2 oV ?_;have a5:ElP m5 E (0+h.length*2) (Hs r):=n.el mV;refine G.f 98 E (0+h.length*2) 1 1<|G.lM none E (0+h.length*2+1) (.slice r.2.2.1 r.2.1.length r.2.2.2) (a5.fld (j:=1) (xs:=#[.string (mkS r.1),.slice r.2.2.1 r.2.1.length r.2.2.2]) rfl rfl) ?_;have z:(Ai r.2.1).length=r.2.1.length:=by simp[Ai]
 refine G.appendL 3 1 8 (.int .i64 0) m5 [] (Ai r.2.1) (.slice none 0 0) r.2.2.1 r.2.1.length r.2.2.2 kV rfl rfl oV (Af.nil _ _ _) (a9.mono (l2.trans l3)) (Av _) (by simp[z];omega) (by simp[z];omega) ?_;intro v6 m6 J;rw[A3q]at J;obtain⟨a6,c6,rfl⟩:=J.shape;rw[z]at J⊢;refine G.buildU 3 1 8 (.int .i64 0) (Ai [T.length]) kV (Av [T.length]) rfl oV (by simp[Ai]) (by simp[Ai]) ?_;intro g7 u7 l7 e7;refine G.append 3 1 8 (.int .i64 0) m5 (Ai r.2.1) (Ai [T.length]) (.slice a6 r.2.1.length c6) g7 0 1 1 kV rfl rfl oV J e7 (Av [T.length]) rfl oV (by simp[z];omega) (by simp[z];omega) ?_;intro v8 m8 K;rw[show Ai r.2.1++Ai [T.length]=Ai (r.2.1++[T.length]) by simp[Ai]]at K;obtain⟨N,O,rfl⟩:=K.shape;have Q:(Ai (r.2.1++[T.length])).length=(r.2.1++[T.length]).length:=by simp[Ai]
 rw[Q]at K⊢;obtain⟨mx,W,aa,V⟩:=At.swap (x:=⟨.slice (some ⟨E,0,none⟩) (h++[r]).length P,98,2,(h++[r]).map Hs⟩) (y:=⟨.slice N (r.2.1++[T.length]).length O,3,1,Ai (r.2.1++[T.length])⟩) K n;refine G.f 98 E (0+h.length*2) 1 1<|G.storeE (t:=98) 2 1 mx ((h++[r]).map Hs) E (h++[r]).length P h.length (Hs r) (Hs (r.1,r.2.1++[T.length],(N,O))) (.slice N (r.2.1++[T.length]).length O) kV aa mV oV rfl rfl rfl ?_;intro Y L;have e9:((h++[r]).map Hs).set h.length (Hs (r.1,r.2.1++[T.length],(N,O)))=(h++[(r.1,r.2.1++[T.length],(N,O))]).map Hs:=by
  rw[A1i,A1i,A4t _ _ mV,A03,A4i];rfl
 rw[e9]at L;have U:PH.le mx Y:=fun g o hg=>L.see hg;obtain⟨my,af,ag⟩:=V ⟨.slice (some ⟨E,0,none⟩) (h++[r]).length P,98,2,(h++[(r.1,r.2.1++[T.length],(N,O))]).map Hs⟩ Y L;have a7:PH.le m4 Y:=fun g o hg=>U g o (W.see hg);refine G.giveP (ma:=Y) (sm:=PH.mt) kV (Ari Y).symm (fun g=>.inr rfl) (fun g=>.inl rfl) ?_;intro ac ab C;have X:=((l2.trans l3).trans l7).trans ab;have a0:Py ac (T.length+1) (h++[(r.1,r.2.1++[T.length],(N,O))]):=Aph ok.rel X oV (Af.list W (U.trans C));have m:(h++[(r.1,r.2.1++[T.length],(N,O))]).length=(h++[r]).length:=mV
 exact G.r (.agg #[.slice a4 (T++[(nmB T.length,2)]).length c4,.slice (some ⟨E,0,none⟩) (h++[r]).length P,.slice xe F.length xf,.int .i64 lab]) ⟨rfl,_,⟨_,_,_,_,_,_,by rw[m],Af.list I (a7.trans C),by rw[m];exact Af.list L C,Z.mono X⟩,Aqc ok hT hn a0 m⟩
section
variable {R:List Br}{T:List (List UInt8×Nat)}{a:Nat}{lab:Int}{n:List UInt8}{u:PH}
def An0 (T:List (List UInt8×Nat)):Prop:=∀ a∈T,(∃ j,a.1=nmA j)\/∃ j,j<T.length/\a.1=nmB j
def Aqs (h:An0 T)(hT:T.length<26):∀ a∈T,a.1≠nmB T.length:=by
 intro a C e;rcases h a C with ⟨j,g⟩|⟨j,g,m⟩
 ·rw[g]at e;unfold nmA nmB at e;simp at e
 rw[m]at e;unfold nmB at e;simp only[A4x,A3q,A3g,and_true,true_and]at e;have t:=Wv (i:=j) oV;have z:=Wv (i:=T.length) hT;rw[e,z]at t;omega
def An0.snoc (h:An0 T)(k:Nat):An0 (T++[(nmB T.length,k)]):=by
 intro a g;rcases A1h.1 g with g|g
 ·rcases h a g with m|⟨j,t,e⟩
  ·exact .inl m
  exact .inr ⟨j,gV,e⟩
 simp at g;subst g;exact .inr ⟨T.length,mV,rfl⟩
def TOK.nmOK (h:TOK T):An0 T:=by
 intro a g;have:a.1∈T.map (·.1):=A1b.2 ⟨a,g,rfl⟩;rw[h.nm]at this;obtain⟨j,_,e⟩:=A1b.1 this;exact .inl ⟨j,e.symm⟩
def Alx {F:List Al}(ok:Bl u T R F lab)(j:T[a]?=some (n,2))(hF:∀ f∈F,f.1≠a):Bl u T R F (a:Int):=by
 refine⟨ok.att,ok.rel,⟨fun f e=>?_,ok.feat.nodup⟩,ok.t1,ok.t2,ok.r1,ok.r2,ok.f2,oV,fun l m=>?_⟩
 ·obtain⟨n,k,g,h,_⟩:=ok.feat.ok f e;have:=hF f e;exact⟨n,k,g,h,oV⟩
 have:l=a:=oV;subst this;exact⟨n,j⟩
def Asp (ok:Bl u T R [] lab){a g:Nat}(h:T[a]?=some (n,2))(j:(a:Int)≠lab)(m:g<=1):Bl u T R [(a,1,g)] lab:=by
 refine⟨ok.att,ok.rel,⟨fun f e=>?_,mV⟩,ok.t1,ok.t2,ok.r1,ok.r2,mV,ok.l1,ok.l2⟩;simp at e;subst e;exact⟨n,2,h,.inl ⟨rfl,rfl,m⟩,j⟩
def Ace {s:Src}{ts:List Int}{k:Nat}(most:Nat)(a9:1<=most)(ad:most<=6)(h:J0 u s ts)(hk:k<=s.n) :
 Ag prog 44 [s.ptr,.int .i64 most] u (s.M k) fun v H O=>∃ (T:List (List UInt8×Nat)) (R:List Br) (F:List Al) (lab:Int) (k':Nat),H5 H v T R F lab/\Bl H T R F lab/\T.length<=8/\0<=lab/\F≠[]/\k'<=s.n/\O=s.M k'/\F.length<=most:=by
 refine Ag.o func44<|G.A call104 (Ags most a9 ad h hk) ?_;rintro v1 u1 m1 l1 ⟨T,R,F,lab,k1,hX,ok,ai,a6,rfl,I,_,aa⟩ _;rw[By];have m:=I.nmOK;obtain⟨xa,xc,U,V,W,X,rfl,N,Z,E⟩:=id hX;have ak:=ok.l1;have aj:=ok.f2;refine G.joinF (ι:=Int) (fun st=>Ajn prog st [.bool false]) (fun z=>[(0,.v s.ptr),(4,.p 0 0),(5,.p 1003 0)])
  (fun z=>[(0,⟨30,[sV none 0 0,sV none 0 0,sV none 0 0,iV 0]⟩),(1003,⟨30,[sV xa T.length xc,sV U R.length V,sV W F.length X,iV z]⟩)])
  (fun z H O=>O=s.M k1/\Bl H T R F z) (fun _=>kV) kV ?tail ?way
 case way =>
  intro g;by_cases hl:lab<0
  ·refine G.lT' lab 0 hl<|G.l (ι:=Nat×Int) (fun i=>[(0,.v s.ptr),(4,.p 0 0),(5,.p 1003 0),(15,sV xa T.length xc),(16,iV T.length),(17,iV i.1)])
    (fun i=>[(0,⟨30,[sV none 0 0,sV none 0 0,sV none 0 0,iV 0]⟩),(1003,⟨30,[sV xa T.length xc,sV U R.length V,sV W F.length X,iV i.2]⟩)])
    (fun i H O=>i.1<=T.length/\O=s.M k1/\Bl H T R F i.2) (fun i=>T.length-i.1) (0,lab) ⟨oV,rfl,ok⟩ ?_
   rintro J ⟨i,z⟩ hJ u2 m2 l2 ⟨hi,rfl,ok2⟩;simp only at hi ok2 hJ;by_cases a8:i<T.length
   ·refine G.lT i T.length ?_;obtain⟨x,a4⟩:∃ x,T[i]?=some x:=⟨_,A01 a8⟩;obtain⟨ba,oa,rfl,ea⟩:=Ac.at' (N.mono l2) (j:=i) (e:=D9 x) (by simp[a4]);obtain⟨xn,xk⟩:=x;refine G.a ba oa T.length xc i 2 a8<|G.lU (some 2) ba (oa+i*2) (.agg #[.string (mkS xn),.int .i64 xk]) ea ?_;by_cases h2:xk=2
    ·subst h2;refine G.eT (2:Nat) 2<|G.c call105 (Az6 (a:=i) (E.mono l2) oV) ?_;rintro v3 u3 K rfl;cases hu:F.any fun f=>f.1==i with
     |true =>
      exact G.i i<|G.b (hJ (i+1,z) _ _ _ cV (l2.trans K) ⟨dV,rfl,ok2.mono K⟩ dV)
     |false =>
      refine G.i i ?_;exact G.b (hJ (i+1,(i:Int)) _ _ _ cV (l2.trans K) ⟨dV,rfl,Alx (ok2.mono K) a4 fun f hf e=>by
       have:=A6p.1 hu f hf;simp[e]at this⟩ dV)
    exact G.eF xk 2<|G.i i<|G.b (hJ (i+1,z) _ _ _ cV l2 ⟨dV,rfl,ok2⟩ dV)
   obtain rfl:i=T.length:=oV;refine G.lF T.length T.length ?_;exact g z _ _ _ kV cV l2 ⟨rfl,ok2⟩
  refine G.lF lab 0 ?_;exact g lab _ _ _ kV cV (PH.le_refl _) ⟨rfl,ok⟩
 rintro z u2 m2 l2 ⟨rfl,ok2⟩;have a5:H5 u2 (.agg #[.slice xa T.length xc,.slice U R.length V,.slice W F.length X,.int .i64 z]) T R F z:=⟨_,_,_,_,_,_,rfl,N.mono l2,Z.mono l2,E.mono l2⟩;have ag:=E.mono l2;clear hX N Z ok I E;refine G.joinF (ι:=(List (List UInt8×Nat)×(Option Addr×Nat))×(List Br×(Option Addr×Nat))×(Option Addr×Nat)×Int) (fun st=>Ajn prog st [.bool false]) (fun _=>[(0,.v s.ptr),(4,.p 0 0),(5,.p 1003 0)])
  (fun i=>[(0,⟨30,[sV none 0 0,sV none 0 0,sV none 0 0,iV 0]⟩),(1003,⟨30,[sV i.1.2.1 i.1.1.length i.1.2.2,sV i.2.1.2.1 i.2.1.1.length i.2.1.2.2,sV i.2.2.1.1 F.length i.2.2.1.2,iV i.2.2.2]⟩)])
  (fun i H O=>O=s.M k1/\Bl H i.1.1 i.2.1.1 F i.2.2.2/\H5 H (.agg #[.slice i.1.2.1 i.1.1.length i.1.2.2,.slice i.2.1.2.1 i.2.1.1.length i.2.1.2.2,.slice i.2.2.1.1 F.length i.2.2.1.2,.int .i64 i.2.2.2]) i.1.1 i.2.1.1 F i.2.2.2/\An0 i.1.1/\i.1.1.length<=7/\0<=i.2.2.2) (fun _=>kV) kV ?tail2 ?way2
 case way2 =>
  intro g;by_cases hl:z<0
  ·refine G.lT' z 0 hl<|G.c call106 (Aww a5 ok2 oV (Aqs m oV)) ?_;rintro v3 u3 K ⟨Q,C,t⟩;obtain⟨ya,yc,yb,yd,ye,yf,rfl,a2,a0,Y⟩:=id C;have a7:(T++[(nmB T.length,2)]).length=T.length+1:=mV;refine G.s ((T++[(nmB T.length,2)]).length:Int) 1 (T.length:Int) ?_;have P:Bl u3 (T++[(nmB T.length,2)]) Q F (T.length:Int):=Alx t (n:=nmB T.length) mV fun f hf e=>by
    obtain⟨n,kd,h1,_⟩:=ok2.feat.ok f hf;have:=(A05.1 h1).1;omega
   exact g ((T++[(nmB T.length,2)],(ya,yc)),(Q,(yb,yd)),(ye,yf),(T.length:Int)) _ _ _ kV cV K ⟨rfl,P,⟨_,_,_,_,_,_,rfl,a2,a0,Y⟩,m.snoc 2,dV,dV⟩
  refine G.lF z 0 ?_;exact g ((T,(xa,xc)),(R,(U,V)),(W,X),z) _ _ _ kV cV (PH.le_refl _) ⟨rfl,ok2,a5,m,dV,dV⟩
 rintro⟨⟨T,⟨xa,xc⟩⟩,⟨R,⟨U,V⟩⟩,⟨W,X⟩,z⟩ u3 m3 K ⟨rfl,t,C,m,hT7,hz⟩;simp only at t C m hT7 hz;by_cases L:F = []
 ·subst L;refine G.eT' ((([]:List Al).length:Nat):Int) 0 rfl<|G.c call106 (Aww C t oV (Aqs m oV)) ?_;rintro v4 u4 l4 ⟨Q,ab,P⟩;obtain⟨ya,yc,yb,yd,ye,yf,rfl,a3,a1,ah⟩:=id ab;have a7:(T++[(nmB T.length,2)]).length=T.length+1:=mV;refine G.s ((T++[(nmB T.length,2)]).length:Int) 1 (T.length:Int)<|G.A call14 (I4 (n:=2) (h.mono (((l1.trans l2).trans K).trans l4)) a6 oV oV) ?_;rintro v5 u5 m5 l5 ⟨r,k5,rfl,hr,ac,rfl⟩ _;rw[By];refine G.B 100 3 24 (.agg #[.int .i64 0,.int .i64 0,.int .i64 0]) [.agg #[.int .i64 T.length,.int .i64 1,.int .i64 r]] (Kg (T.length,1,r)) ?_;intro g6 u6 l6 e6;have ae:((T.length:Nat):Int)≠z:=by
   intro e;obtain⟨n,hn⟩:=t.l2 T.length e.symm;have:=(A05.1 hn).1;omega
  have af:Bl u6 (T++[(nmB T.length,2)]) Q [(T.length,1,r)] z:=Asp (n:=nmB T.length) (P.mono (l5.trans l6)) mV ae oV;exact G.r (.agg #[.slice ya (T++[(nmB T.length,2)]).length yc,.slice yb Q.length yd,.slice (some ⟨g6,0,none⟩) 1 1,.int .i64 z]) ⟨_,Q,[(T.length,1,r)],z,k5,⟨_,_,_,_,_,_,rfl,a3.mono (l5.trans l6),a1.mono (l5.trans l6),e6.listP⟩,af,oV,hz,mV,ac,rfl,a9⟩
 refine G.eqlF (F.length:Int) 0 kV (by
  have:F.length≠0:=fun e=>L (A9i.1 e);omega) ?_
 exact G.r (.agg #[.slice xa T.length xc,.slice U R.length V,.slice W F.length X,.int .i64 z]) ⟨T,R,F,z,k1,C,t,oV,hz,L,a6,rfl,aa⟩
end
def Awp {n:Nat}(h:n<=8):1374926400^n*7*100<10^100:=by
 have e:1374926400^n<=1374926400^8:=A10 oV h;have g:1374926400^8<10^80:=jV
 have j:(10:Nat)^80*100000<10^100:=jV
 omega
def Aee {u:PH}{T:List (List UInt8×Nat)}{R:List Br}{F:List Al}{lab:Int}(ok:Bl u T R F lab)(hT:T.length<=8){L:List Dm}(e:∀ y∈L,Bw T y.1/\y.2.1<=7)(g:L.length<=100):CFS (Cf F lab L)/\CFV (Cf F lab L):=by
 obtain⟨h,j⟩:=Alz ok e;refine⟨h.cfs oV ?_,j⟩;have hp:=Awp hT;have:=A13 (1374926400^T.length*7) g;omega
section
variable {L:List Dm}
def Avj {F:List Al}{lab:Int}:∀ p,(Cf F lab L).s p≠0->Adm F lab p:=fun p hp=>by
 obtain⟨y,g,e⟩:=Aj4 hp;exact (Yf e).1
def WOK.tup {u:PH}{T:List (List UInt8×Nat)}(h:WOK u T L):∀ y∈L,Bw T y.1/\y.2.1<=7:=fun y e=>by
 obtain⟨_,g,_,j⟩:=h y e;exact⟨g,j⟩
end
section
variable {F:List Al}{L:List Dm}{T:List (List UInt8×Nat)}{lab:Int}
def C9 (T:List (List UInt8×Nat))(ss:List (List UInt8)):Prop:=∀ (i:Nat) (x:List UInt8×Nat) (t:List UInt8),T[i]?=some x->ss[i]?=some t->x.2=3->t = []\/Ae7 t=true
def W9.c9 (h:W9 T L):∀ y∈L,C9 T y.1:=fun y m i x t j g n=>by
 rcases h y m i x t j g with h|⟨_,h⟩|⟨e,_⟩|⟨e,_⟩
 ·exact .inl h
 ·exact .inr h
 ·omega
 omega
def Aw9 {ss:List (List UInt8)}{p:Par}{i:Nat}{f:Al}(hF:Da T F lab)(Q:Bw T ss)(u:C9 T ss)(C:(cfT F lab ss).s p≠0)(hp:p.1=(i:Int))(H:F[i]?=some f)(P:f.2.1=2):p.2 = []\/Ae7 p.2=true:=by
 obtain⟨_,a,q,E,_⟩:=Yf C;have m:a<ss.length:=by
  have:=(A05.1 E).1;rwa[G3]at this
 have e:=Hg (F:=F) (lab:=lab) (w:=ss[a]) (A01 m);rw[E]at e;have h:Gm F lab a ss[a]=some (some (p,q)):=(A28 e).symm;obtain⟨x,K,R⟩:=Q.at m;have u:=u a x ss[a] K (A01 m);generalize ss[a]=w at h R u;by_cases J:(a:Int)=lab
 ·have N:Gm F lab a w=Sy w:=by unfold Gm;rw[if_pos J]
  rw[N]at h;unfold Sy at h;split at h
  ·cases h
  simp only[A1f,A2i]at h;obtain⟨rfl,_⟩:=h;simp only at hp;omega
 rcases Gn (F:=F) (w:=w) J with t|⟨j,g,I,z,t⟩
 ·rw[t]at h;cases h
 rw[t]at h;have O:p.1=(j:Int):=by
  unfold I3 at h;split at h
  ·cases h;rfl
  split at h
  ·split at h<;>cases h
  cases h;rfl
 obtain rfl:j=i:=oV;rw[I]at H;cases H;unfold I3 at h;rw[if_pos P]at h;simp only[A1f,A2i]at h;obtain⟨rfl,_⟩:=h;obtain⟨n,k,t,U,_⟩:=hF.ok f (A1k I);rw[z,K]at t;cases t;exact u oV
theorem Af5 {α β:Type}{f:α->List β}{n:Nat}:∀ {l:List α},(∀ x∈l,(f x).length<=n)->(l.flatMap f).length<=l.length*n
 |[],_=>mV
 |x::l,h=>by
  rw[A6o,A1d,A3f,A16,A3i];have h1:=h x mV;have h2:=Af5 (l:=l) fun y hy=>h y (by simp[hy]);omega
def Atb {P:List Par}(hF:Da T F lab)(hT:∀ y∈L,Bw T y.1)(H:∀ y∈L,C9 T y.1)(z:Nn F (Cf F lab L) P):P.length<=F.length*4:=by
 have e:P ⊆ (List.range F.length).flatMap fun (i:Nat)=>[((i:Int),([]:List UInt8)),((i:Int),Ai7),((i:Int),Qf),((i:Int),Xg)]:=fun p hp=>by
  rcases (z.2 p).1 hp with ⟨i,f,rfl,m,_⟩|⟨t,i,f,g,m,E⟩
  ·exact A57.2 ⟨i,by simpa using (A05.1 m).1,by unfold Li;simp⟩
  refine A57.2 ⟨i,by simpa using (A05.1 m).1,?_⟩;obtain⟨y,C,u⟩:=Aj4 t;obtain⟨I,J⟩:=p;simp only at g;subst g;rcases Aw9 hF (hT y C) (H y C) u rfl m E with h|h
  ·simp only at h;subst h;simp
  rcases Avi h with j|j|j<;>· simp only at j;subst j;simp
 have g:=List.Nodup.length_le_of_subset (z.1.nodup Et) e;refine A04 g ?_;have:=Af5 (l:=List.range F.length) (n:=4) (f:=fun (i:Nat)=>[((i:Int),([]:List UInt8)),((i:Int),Ai7),((i:Int),Qf),((i:Int),Xg)]) fun x _=>mV;rw[List.length_range]at this;exact this
end
section
variable {F:List Al}{R:List Br}{T:List (List UInt8×Nat)}{lab:Int}{u:PH}
def Aya {ss:List (List UInt8)}(ok:Bl u T R F lab)(g:Bw T ss)(j:-1<=lab)(m:∀ l:Nat,lab=(l:Int)->l<ss.length)(n:G4 F lab ss=true)(p:Par):Dn 1 18540 ((cfT F lab ss).s p):=by
 by_cases h:(cfT F lab ss).s p=0
 ·rw[h];exact Dn.zero _ _
 obtain⟨_,a,q,e,_⟩:=Yf h;rw[Tv ok.feat g j m n e];exact (show SmW q/\PV p from N0 ok g _ (A1k e)).1.dn
def Ayj {x:Par->Rat}(h:∀ p,Dn 1 18540 (x p)):∀ e,Dn 1 18540 (Zg x e)
 |none=>(show SmW 1 from⟨jV,jV⟩).dn
 |some p=>h p
structure In (N:Nat)(C:CF):Prop where
 c:∀ e f,Dn 2 N (As C e f)
 r:∀ e,Dn 2 N (Bh C e)
 l:Dn 2 N (C.t (Ay B7 B7))
theorem L0 (ok:Bl u T R F lab)(h1:-1<=lab)(h2:∀ l:Nat,lab=(l:Int)->l<T.length):∀ {L:List Dm},(∀ y∈L,Bw T y.1/\y.2.1<=7)->In (L.length*2406121200) (Cf F lab L):=by
 intro L;induction L using Ig with
 |h0=>exact fun _=>⟨fun e f=>by rw[show Cf F lab []=CF.num 0 from rfl,Az0.cell];exact Dn.zero _ _,fun e=>by cases e<;>exact Dn.zero _ _,Dn.zero _ _⟩
 |h1 L y ih =>
  intro h;have i1:=ih fun z hz=>h z (A24 _ hz);obtain⟨hy,hw⟩:=h y mV;have hlen:=hy.len;have hl:∀ l:Nat,lab=(l:Int)->l<y.1.length:=fun l e=>by have:=h2 l e;omega
  have one:In 343731600 (cfT F lab y.1):=by
   rcases Pf ok.feat hy h1 hl with ⟨hc,o⟩|⟨_,o⟩
   ·have hd:=Aya ok hy h1 hl hc;have he:=Ayj hd;exact⟨fun e f=>by rw[o.cell];exact (he e).mul (he f),fun e=>by rw[o.right];exact (hd B7).mul (he e),by rw[o.t];exact (hd B7).mul (hd B7)⟩
   ·have hn:cfT F lab y.1=cfT F lab y.1:=rfl;refine⟨fun e f=>by rw[o.cell];exact Dn.zero _ _,fun e=>?_,?_⟩
    ·cases e
     ·show Dn 2 343731600 ((cfT F lab y.1).s B7);rw[o.s];exact Dn.zero _ _
     ·show Dn 2 343731600 ((cfT F lab y.1).t _);rw[o.t];exact Dn.zero _ _
    ·rw[o.t];exact Dn.zero _ _
  have add:∀ {q r:Rat},Dn 2 (L.length*2406121200) q->Dn 2 343731600 r->Dn 2 ((L++[y]).length*2406121200) (q+r*(y.2.1:Rat)):=fun hq hr=>by
   refine (hq.add (hr.mul (Auv hw))).mono ?_;rw[A1d,A16];simp
  rw[Eb];exact⟨fun e f=>by rw[T1];exact add (i1.c e f) (one.c e f),fun e=>by rw[Xz];exact add (i1.r e) (one.r e),add i1.l one.l⟩
end
section
variable {α:Type}
def Ah4 (l:List α)(d:α):l=(List.range l.length).map fun j=>l.getD j d:=by
 refine A5l mV fun j e g=>?_;simp[A02,A01 e]
def Qa (f:α->Rat)(l:List α)(d:α):B9 f l=Bb l.length fun j=>f (l.getD j d):=by
 unfold Bb;rw[<-So (f:=f) (fun j=>l.getD j d),<-Ah4]
def F7 (n:Nat)(f g:Nat->Rat):Bb n (fun i=>f i+g i)=Bb n f+Bb n g:=L7 _
theorem Agy {n i:Nat}(t:Rat)(y:Nat->Rat):Bb n (fun j=>(if i=j/\0<i then t else 0)*y j)=if i<n/\0<i then t*y i else 0:=by
 induction n with
 |zero=>rw[Uk,if_neg oV]
 |succ n ih =>
  rw[Ds,ih];by_cases h0:0<i
  ·by_cases g:i<n
   ·rw[if_pos ⟨g,h0⟩,if_neg oV,if_pos ⟨oV,h0⟩];grind
   by_cases e:i=n
   ·rw[if_neg oV,if_pos ⟨e,h0⟩,if_pos ⟨oV,h0⟩,e];grind
   rw[if_neg oV,if_neg oV,if_neg oV];grind
  rw[if_neg oV,if_neg oV,if_neg oV];grind
end

end Go.Proofs.YtemmheaocgmebaaGreatDoor
