/- Parts of one proof, joined by a program. -/
import Derived.Test.YtemmheaocgmebaaGreatDoorS09
set_option linter.defProp false
set_option linter.unusedVariables false
set_option linter.unusedSimpArgs false
set_option linter.unusedSectionVars false
set_option maxHeartbeats 16000000
namespace Go.Proofs.YtemmheaocgmebaaGreatDoor
open Go.Proofs.Tryz
open Go.RowKit Go.MapKept
def A9i:=@List.length_eq_zero_iff
def A83:=@Array.size_modify
def A8d:=@List.length_filter_le
def Bcq:=@Rat.le_refl
def A9g:=@Rat.le_total
def A4o:=@Rat.mul_nonneg
def Bat:=@Rat.le_of_lt
def A40:=@Rat.mul_eq_zero
def Bau:=@Rat.mul_zero
def A9w:=@List.set_getElem_self
theorem Src.h0or (s:Src)(k j:Nat)(m:PH)(g:Nat):s.M k g=none\/(m.or (s.M j)) g≠none:=by
 rcases s.h0 k j g with e|e
 ·grind
 right;intro h;cases hx:m g with
 |some o=>rw[PH.or_l hx]at h;cases h
 |none=>rw[PH.or_r hx]at h;exact e h
def Atc {m:PH}{a b c d:Arr}(h:Bag m [a,b,c,d]):Bag m [a,c,d]:=by
 have e:Bag m [a,c,d,b]:=Bag.perm (List.Perm.cons a ((List.Perm.swap c b [d]).trans (List.Perm.cons c (List.Perm.swap d b [])))) h;obtain⟨j,C,t,E,u,F,_⟩:=e;exact⟨j,C,t,E,u,F,trivial⟩
def Ay7 {x:Int}(h:x∈[1,2,2,(3:Int)]):∃ n:Nat,x=(n:Int)/\1<=n/\n<=3:=by
 simp at h;rcases h with rfl|rfl|rfl
 ·exact⟨1,rfl,oV,oV⟩
 ·exact⟨2,rfl,oV,oV⟩
 exact⟨3,rfl,oV,oV⟩
def Ags {u:PH}{s:Src}{ts:List Int}{k:Nat}(most:Nat)(f7:1<=most)(e4:most<=6)(h:J0 u s ts)(hk:k<=s.n) :
 Ag prog 104 [s.ptr,zI most] u (s.M k) fun v u' m'=>∃ (T:zC) (R:List Br) (F:List Al) (lab:Int) (k':Nat),H5 u' v T R F lab/\Bl u' T R F lab/\T.length<=6/\k'<=s.n/\m'=s.M k'/\TOK T/\T.length<=most/\F.length<=most:=by
 refine Ag.o func104<|G.A call181 (Anm (lo:=1) (hi:=3) (n:=3) h hk oV oV oV oV oV) ?_;rintro v1 u1 m1 l1 ⟨r,k1,rfl,hr,e0,rfl⟩ _;rw[By];obtain⟨n,hn⟩:∃ n:Nat,(1:Int)+(r:Int)=(n:Int):=⟨1+r,oV⟩;rw[hn];refine G.l (ι:=Nat×Nat×zC×(zP×Nat)×List Br×(zP×Nat)) (fun i=>[(0,.v s.ptr),(1,iV most),(4,.p 0 0),(5,.p 1001 0),(6,iV n),(7,iV i.1)])
  (fun i=>[(0,⟨30,[sN,sN,sN,iV 0]⟩),(1001,⟨30,[sV i.2.2.2.1.1 i.2.2.1.length i.2.2.2.1.2,sV i.2.2.2.2.2.1 i.2.2.2.2.1.length i.2.2.2.2.2.2,sN,iV (-1)]⟩)])
  (fun i u' m'=>i.1<=n/\i.2.1<=s.n/\TOM most i.2.2.1/\ROK u' i.2.2.1.length i.2.2.2.2.1/\i.2.2.2.2.1.length=i.1/\(0<i.1->0<i.2.2.1.length)/\Bag m' [s.arr i.2.1,Acx i.2.2.2.1.1 i.2.2.2.1.2 i.2.2.1,Zn i.2.2.2.2.2.1 i.2.2.2.2.2.2 i.2.2.2.2.1])
  (fun i=>n-i.1) (0,k1,[],(none,0),[],(none,0))
  ⟨A1t _,e0,TOM.nil most,ROK.nil,rfl,fun h=>absurd h mV,s.bag0 k1 ⟨PH.mt,Af.nil _ _ _,PH.mt,Af.nil _ _ _,trivial⟩⟩ ?_
 rintro J ⟨i,k2,T,⟨ta,tc⟩,R,⟨ra,rc⟩⟩ hJ u2 m2 l2 ⟨hi,ck,hT,hR,cz,h0,b7⟩;simp only at hi ck hT hR cz h0 b7 hJ;subst cz;have c0:=l1.trans l2;have dy:=hT.le;by_cases f6:R.length<n
 ·refine G.lT R.length n<|G.l (ι:=Nat×Nat×zK×(zP×Nat)) (fun i=>[(0,.v s.ptr),(1,iV most),(4,.p 0 0),(5,.p 1001 0),(6,iV n),(7,iV R.length),(8,sV i.2.2.2.1 i.2.2.1.length i.2.2.2.2),(23,iV T.length),(24,iV i.1)])
   (fun i=>[(0,⟨30,[sN,sN,sN,iV 0]⟩),(1001,⟨30,[sV ta T.length tc,sV ra R.length rc,sN,iV (-1)]⟩)])
   (fun i u' m'=>i.1<=T.length/\i.2.1<=s.n/\LOK i.2.2.1 i.1/\Bag m' [s.arr i.2.1,Agt i.2.2.2.1 i.2.2.2.2 i.2.2.1,Acx ta tc T,Zn ra rc R])
   (fun i=>T.length-i.1) (0,k2,[],(none,0))
   ⟨A1t _,ck,LOK.nil,by obtain⟨m0,e9,hL⟩:=b7;exact⟨m0,e9,m0,Af.nil _ _ _,hL⟩⟩ ?_
  rintro J1 ⟨j,k3,l,⟨la,lc⟩⟩ V u3 m3 l3 ⟨hj,a3,hl,aj⟩;simp only at hj a3 hl aj V;have f5:=hl.len;by_cases f2:j<T.length
  ·refine G.lT j T.length ?_;obtain⟨n4,al,ci⟩:=aj;obtain⟨rfl,b8⟩:=Src.split al;refine G.D call14 (Src.apart b8) (I4 (n:=3) (h.mono (c0.trans l3)) a3 oV oV) ?_;rintro v4 u4 m4 l4 ⟨r4,k4,rfl,e7,bs,rfl⟩ _;have m:Bag _ [s.arr k4,Agt la lc l,Acx ta tc T,Zn ra rc R]:=⟨_,Src.at b8,ci⟩;by_cases d8:r4=0
   ·refine G.eT r4 0<|G.B 3 1 8 zO [zI j] (Av [j]) ?_;intro g6 u6 l6 e6;obtain⟨cr,bg,ak⟩:=m.focus 1 rfl;rw[Aca]at bg;refine G.append 3 1 8 zO cr (Ai l) [zI j] (.slice la l.length lc) g6 0 1 1 kV rfl rfl oV bg e6 (Av [j]) rfl oV (by simp[Ai];omega) (by simp[Ai];omega) ?_;intro w6 cs ab;rw[Di]at ab;obtain⟨a6,c6,rfl⟩:=ab.shape;rw[Ak]at ab⊢;have X:=ak (Agt a6 c6 (l++[j])) cs ab;simp only[A2j,A2p]at X;exact G.i j<|G.b (V (j+1,k4,l++[j],(a6,c6)) _ _ _ cV ((l3.trans l4).trans l6) ⟨dV,bs,hl.snoc,X⟩ dV)
   exact G.eF r4 0<|G.i j<|G.b (V (j+1,k4,l,(la,lc)) _ _ _ cV (l3.trans l4) ⟨dV,bs,hl.up,m⟩ dV)
  obtain rfl:j=T.length:=oV;refine G.lF T.length T.length ?_;obtain⟨n4,al,ci⟩:=aj;obtain⟨rfl,b8⟩:=Src.split al;refine G.D call14 (Src.apart b8) (I4 (n:=3) (h.mono (c0.trans l3)) a3 oV oV) ?_;rintro v4 u4 m4 l4 ⟨r4,k4,rfl,e7,bs,rfl⟩ _;have m:Bag _ [s.arr k4,Agt la lc l,Acx ta tc T,Zn ra rc R]:=⟨_,Src.at b8,ci⟩;refine G.l (ι:=Int×Nat×zK×(zP×Nat)×zC×(zP×Nat)) (fun i=>[(0,.v s.ptr),(1,iV most),(4,.p 0 0),(5,.p 1001 0),(6,iV n),(7,iV R.length),(8,sV i.2.2.2.1.1 i.2.2.1.length i.2.2.2.1.2),(10,iV i.1)])
   (fun i=>[(0,⟨30,[sN,sN,sN,iV 0]⟩),(1001,⟨30,[sV i.2.2.2.2.2.1 i.2.2.2.2.1.length i.2.2.2.2.2.2,sV ra R.length rc,sN,iV (-1)]⟩)])
   (fun i u' m'=>i.2.1<=s.n/\(i.2.2.1 = []->0<=i.1)/\-1<=i.1/\i.1<=2/\T.length<=i.2.2.2.2.1.length/\TOM most i.2.2.2.2.1/\LOK i.2.2.1 i.2.2.2.2.1.length/\(∀ a,T.length<=a->a<i.2.2.2.2.1.length->a∈i.2.2.1)/\Bag m' [s.arr i.2.1,Agt i.2.2.2.1.1 i.2.2.2.1.2 i.2.2.1,Acx i.2.2.2.2.2.1 i.2.2.2.2.2.2 i.2.2.2.2.1,Zn ra rc R])
   (fun i=>(i.1+1).toNat) ((r4:Int),k4,l,(la,lc),T,(ta,tc))
   ⟨bs,fun _=>dV,dV,dV,A08 _,hT,hl,fun a h1 h2=>by dsimp only at h2;omega,m⟩ ?_
  rintro J2 ⟨z,k5,E,⟨a0,a1⟩,C,⟨bp,bq⟩⟩ cx u5 m5 cq ⟨a4,df,eb,ec,ai,b6,bd,a5,t⟩;simp only at a4 df eb ec ai b6 bd a5 t cx;have ez:=b6.le;have f0:=bd.len;have dg:=((c0.trans l3).trans l4).trans cq;have c1:=(l3.trans l4).trans cq;refine dite (0<z) (fun hz=>?zp) (fun hz=>?zn)
  case' zp =>
   refine G.gT z 0 ?_;refine dite (C.length<most) (fun be=>?g1) (fun be=>?l1)
  case' g1=>refine G.lT C.length most ?_
  case' l1 =>
   refine G.lF C.length most ?_;refine dite (E = []) (fun I=>?e1) (fun I=>?n1)
  case' n1=>have d7:0<C.length:=oV
  case' zn =>
   refine G.gF z 0 ?_;refine dite (E = []) (fun I=>?y2) (fun I=>?n2)
  case' y2 =>
   have f8:=df I;have d5:E.length=0:=by rw[I];rfl
   refine G.eT E.length 0 ?_;refine dite (C.length<most) (fun be=>?g2) (fun be=>?e2)
  case' g2=>refine G.lT C.length most ?_
  case' e2=>refine G.lF C.length most ?_
  case' n2 =>
   have d5:0<E.length:=A4f.2 I;refine G.eF E.length 0 ?_;have d7:0<C.length:=by
    obtain⟨x,hx⟩:=List.exists_mem_of_ne_nil _ I;have:=bd.lt x hx;omega
  case g1|g2 =>
   refine G.B 3 1 8 zO [zI C.length] (Av [C.length]) ?_;intro ds fd cp dp;obtain⟨dh,c4,bu⟩:=t.focus 1 rfl;rw[Aca]at c4;refine G.append 3 1 8 zO dh (Ai E) [zI C.length] (.slice a0 E.length a1) ds 0 1 1 kV rfl rfl oV c4 dp (Av [C.length]) rfl oV (by simp[Ai];omega) (by simp[Ai];omega) ?_;intro fh dj au;rw[Di]at au;obtain⟨ca,cb,rfl⟩:=au.shape;rw[Ak]at au⊢;have aq:=bu (Agt ca cb (E++[C.length])) dj au;simp only[A2j,A2p]at aq;refine G.both [0,1,2,3,4,6] 5 7 [8,9,10,11,12,13] kV ?_ ?_;refine G.c call182 (S0 (p:=[97]) (i:=C.length) oV mV) ?_;rintro eu em ay rfl;refine G.B 3 1 8 zO [zI 1,zI 2,zI 2,zI 3] (N7 [1,2,2,3]) ?_;intro du eo bj cd;have c7:=(((dg).trans cp).trans ay).trans bj;have c8:=ay.trans bj;have c2:=cd.listP
   rotate_left
   refine G.B 3 1 8 zO [zI 1,zI 2,zI 2,zI 3] (N7 [1,2,2,3]) ?_;intro du eo bj cd;refine G.c call182 (S0 (p:=[97]) (i:=C.length) oV mV) ?_;rintro eu em ay rfl;have c7:=(((dg).trans cp).trans bj).trans ay;have c8:=bj.trans ay;have c2:=cd.listP.mono ay;all_goals
    obtain⟨dl,bz,cy⟩:=aq;obtain⟨rfl,c3⟩:=Src.split bz;refine G.D call88 (Src.apart c3) (Aer (L:=[1,2,2,3]) (h.mono c7) a4 c2 mV mV) ?_;rintro fg fe f9 ed ⟨kd,bt,cm,rfl,d1,rfl⟩ _;obtain⟨kn,rfl,d3,d4⟩:=Ay7 bt;have br:Bag (dl.or (s.M cm)) [s.arr cm,Agt ca cb (E++[C.length]),Acx bp bq C,Zn ra rc R]:=⟨dl,Src.at c3,cy⟩;refine G.B 96 2 24 (.agg #[zE,zO]) [.agg #[zS (nmA C.length),zI kn]] (Ak2 (nmA C.length,kn)) ?_;intro dv ff ee dq;obtain⟨di,c5,bw⟩:=br.focus 2 rfl;rw[Ath]at c5;refine G.append 96 2 24 (.agg #[zE,zO]) di (C.map D9) [.agg #[zS (nmA C.length),zI kn]] (.slice bp C.length bq) dv 0 1 1 kV rfl rfl oV c5 dq (Ak2 (nmA C.length,kn)) rfl oV (by simp[Ai];omega) (by simp[Ai];omega) ?_;intro fi dk av;rw[show C.map D9++[.agg #[zS (nmA C.length),zI kn]]=(C++[(nmA C.length,kn)]).map D9 by rw[A1i];rfl]at av;obtain⟨cu,cv,rfl⟩:=av.shape;rw[A03]at av⊢;have ar:=bw (Acx cu cv (C++[(nmA C.length,kn)])) dk av;simp only[A2j,A2p]at ar;refine G.s z 1 (z-1) ?_;exact G.b (cx (z-1,cm,E++[C.length],(ca,cb),C++[(nmA C.length,kn)],(cu,cv)) _ _ _ cV ((((cq.trans cp).trans c8).trans ed).trans ee) ⟨d1,fun e=>by simp at e,dV,dV,by dsimp only;rw[A1d];omega,b6.snocm d3 d4 oV e4,by dsimp only;rw[A1d];exact bd.snoc,fun a h1 h2=>by
     dsimp only at h2⊢;rw[A1d,A20]at h2;rcases A2e a C.length with e|e
     ·exact A24 _ (a5 a h1 e)
     exact A6v _ (A12.2 oV),ar⟩ dV)
  case e1|e2 =>
   subst I;refine G.eT' (([]:zK).length:Int) 0 mV<|G.B 3 1 8 zO [zI (0:Nat)] (Av [0]) ?_;intro a2 dm bk dr;have bb:Ac dm (zG a2 1 1) 1 (Ai [0]):=dr.listP;have W:=Atc t;refine G.c call182 (S0 (p:=[114]) (i:=R.length) oV mV) ?_;rintro ew ep an rfl;refine G.B 98 2 40 (.agg #[zE,zN]) [.agg #[zS (nmR R.length),zG a2 1 1]] (Sh (nmR R.length,[0],((some (⟨a2,0,none⟩:Addr)),1))) ?_;intro ch ct ao ce;obtain⟨bm,ah,aa⟩:=W.focus 2 rfl;rw[Aj5]at ah;refine G.append 98 2 40 (.agg #[zE,zN]) bm (R.map Hs) [.agg #[zS (nmR R.length),zG a2 1 1]] (.slice ra R.length rc) ch 0 1 1 kV rfl rfl oV ah ce (Sh (nmR R.length,[0],((some (⟨a2,0,none⟩:Addr)),1))) rfl oV (by simp[Ai];omega) (by simp[Ai];omega) ?_;intro ey bo U;rw[show R.map Hs++[.agg #[zS (nmR R.length),zG a2 1 1]]=(R++[(nmR R.length,[0],((some (⟨a2,0,none⟩:Addr)),1))]).map Hs by rw[A1i];rfl]at U;obtain⟨b1,b3,rfl⟩:=U.shape;rw[A03]at U⊢;have P:=aa (Zn b1 b3 (R++[(nmR R.length,[0],((some (⟨a2,0,none⟩:Addr)),1))])) bo U;simp only[A2j,A2p]at P;refine G.p R.length 1 (R.length+1:Nat) ?_;have b5:ROK ct C.length (R++[(nmR R.length,[0],((some (⟨a2,0,none⟩:Addr)),1))]):=by
    refine (hR.mono (c1 |>.trans bk |>.trans an |>.trans ao)).snoc ai (LOK.zero oV) mV (fun a h1 h2=>?_) (bb.mono (an.trans ao));exact absurd (a5 a h1 h2) mV
   exact G.b (hJ (R.length+1,k5,C,(bp,bq),R++[(nmR R.length,[0],((some (⟨a2,0,none⟩:Addr)),1))],(b1,b3)) _ _ _ cV (l2.trans (c1 |>.trans bk |>.trans an |>.trans ao)) ⟨dV,a4,b6,b5,mV,fun _=>dV,P⟩ dV)
  case n1|n2 =>
   have f4:0<E.length:=A4f.2 I;refine G.eF E.length 0 ?_;obtain⟨mL,dd,cl⟩:=t.take 1 rfl;have W:Bag mL [s.arr k5,Acx bp bq C,Zn ra rc R]:=cl;rw[Aca]at dd;refine G.give mL (Ai E) (.slice a0 E.length a1) kV dd (fun g=>?_) ?_
   ·obtain⟨eh,db,_⟩:=W;obtain⟨rfl,_⟩:=Src.split db;exact s.h0or k k5 eh g
   intro dm bk bb;refine G.c call182 (S0 (p:=[114]) (i:=R.length) oV mV) ?_;rintro ew ep an rfl;refine G.B 98 2 40 (.agg #[zE,zN]) [.agg #[zS (nmR R.length),.slice a0 E.length a1]] (Sh (nmR R.length,E,(a0,a1))) ?_;intro ch ct ao ce;obtain⟨bm,ah,aa⟩:=W.focus 2 rfl;rw[Aj5]at ah;refine G.append 98 2 40 (.agg #[zE,zN]) bm (R.map Hs) [.agg #[zS (nmR R.length),.slice a0 E.length a1]] (.slice ra R.length rc) ch 0 1 1 kV rfl rfl oV ah ce (Sh (nmR R.length,E,(a0,a1))) rfl oV (by simp[Ai];omega) (by simp[Ai];omega) ?_;intro ey bo U;rw[show R.map Hs++[.agg #[zS (nmR R.length),.slice a0 E.length a1]]=(R++[(nmR R.length,E,(a0,a1))]).map Hs by rw[A1i];rfl]at U;obtain⟨b1,b3,rfl⟩:=U.shape;rw[A03]at U⊢;have P:=aa (Zn b1 b3 (R++[(nmR R.length,E,(a0,a1))])) bo U;simp only[A2j,A2p]at P;refine G.p R.length 1 (R.length+1:Nat) ?_;have b5:ROK ct C.length (R++[(nmR R.length,E,(a0,a1))]):=by
    exact (hR.mono (c1 |>.trans bk |>.trans an |>.trans ao)).snoc ai bd I a5 (bb.mono (an.trans ao))
   exact G.b (hJ (R.length+1,k5,C,(bp,bq),R++[(nmR R.length,E,(a0,a1))],(b1,b3)) _ _ _ cV (l2.trans (c1 |>.trans bk |>.trans an |>.trans ao)) ⟨dV,a4,b6,b5,mV,fun _=>dV,P⟩ dV)
 obtain rfl:R.length=n:=oV;refine G.lF R.length R.length ?_;have cj:=h0 oV;obtain⟨n0,dc,hL⟩:=b7;obtain⟨rfl,dz⟩:=Src.split dc;refine G.giveP (ma:=n0) (sm:=s.M k2) kV rfl (Src.apart dz) (s.h0 k k2) ?_;intro u3 l3 d6;have cw:Ac u3 (.slice ta T.length tc) 2 (T.map D9):=hL.list d6 0 rfl;have dx:Ac u3 (.slice ra R.length rc) 2 (R.map Hs):=hL.list d6 1 rfl;refine G.l (ι:=Nat×Nat×List Al×(zP×Nat)×Int) (fun i=>[(0,.v s.ptr),(4,.p 0 0),(5,.p 1001 0),(86,sV ta T.length tc),(87,iV T.length),(88,iV i.1)])
  (fun i=>[(0,⟨30,[sN,sN,sN,iV 0]⟩),(1001,⟨30,[sV ta T.length tc,sV ra R.length rc,sV i.2.2.2.1.1 i.2.2.1.length i.2.2.2.1.2,iV i.2.2.2.2]⟩)])
  (fun i u' m'=>i.1<=T.length/\i.2.1<=s.n/\FOK T i.2.2.1 i.2.2.2.2 i.1/\Bag m' [s.arr i.2.1,W3 i.2.2.2.1.1 i.2.2.2.1.2 i.2.2.1])
  (fun i=>T.length-i.1) (0,k2,[],(none,0),-1)
  ⟨A1t _,ck,FOK.nil,s.bag0 k2 ⟨PH.mt,Af.nil _ _ _,trivial⟩⟩ ?_
 rintro J1 ⟨a,k3,F,⟨fa,fc⟩,lab⟩ V u4 m4 l4 ⟨ha,a3,hF,m⟩;simp only at ha a3 hF m V;have az:=(c0.trans l3).trans l4;have f3:=hF.len;by_cases bf:a<T.length
 ·refine G.lT a T.length ?_;have ax:T[a]?=some T[a]:=A01 bf;have bt:=hT.kd _ (A09 bf);obtain⟨ba,oa,rfl,ea⟩:=Ac.at' (cw.mono l4) (j:=a) (e:=D9 T[a]) (by simp[ax]);generalize T[a]=x at ax bt ea;obtain⟨nm,kd⟩:=x;simp only at bt;refine G.N T.length tc bf ea ?_;by_cases d0:kd=2
  ·subst d0;refine G.eT (2:Nat) 2 ?_;by_cases f1:lab<0
   ·refine G.lT lab 0 ?_;obtain⟨n5,Z,aw⟩:=m;obtain⟨rfl,ae⟩:=Src.split Z;refine G.D call14 (Src.apart ae) (I4 (n:=2) (h.mono az) a3 oV oV) ?_;rintro v5 u5 m5 E ⟨r5,k5,rfl,e8,a4,rfl⟩ _;have t:Bag _ [s.arr k5,W3 fa fc F]:=⟨_,Src.at ae,aw⟩;by_cases d8:r5=0
    ·exact G.eT r5 0<|G.i a<|G.b (V (a+1,k5,F,(fa,fc),(a:Int)) _ _ _ cV (l4.trans E) ⟨dV,a4,hF.lab ax,t⟩ dV)
    refine G.eF r5 0<|G.eT (2:Nat) 2 ?_;have Y:=ae;have ac:=aw;refine G.D call14 (Src.apart Y) (I4 (n:=4) (h.mono (az.trans E)) a4 oV oV) ?_;rintro er ei ef am ⟨ap,bh,rfl,d9,af,rfl⟩ _;have a7:Bag _ [s.arr bh,W3 fa fc F]:=⟨_,Src.at Y,ac⟩;by_cases e5:0<ap
    ·refine G.gT ap 0 ?_;have ad:=Y;have b4:=ac;refine G.D call14 (Src.apart ad) (I4 (n:=2) (h.mono ((az.trans E).trans am)) af oV oV) ?_;rintro et ej eg cn ⟨H,bi,rfl,da,b9,rfl⟩ _;have a8:Bag _ [s.arr bi,W3 fa fc F]:=⟨_,Src.at ad,b4⟩;refine G.B 100 3 24 (.agg #[zO,zO,zO]) [.agg #[zI a,zI (1:Nat),zI H]] (Kg (a,1,H)) ?_;intro cg ek co cc;obtain⟨bl,ag,a9⟩:=a8.focus 1 rfl;rw[Acb]at ag;refine G.append 100 3 24 (.agg #[zO,zO,zO]) bl (F.map Cm) [.agg #[zI a,zI (1:Nat),zI H]] (.slice fa F.length fc) cg 0 1 1 kV rfl rfl oV ag cc (Kg (a,1,H)) rfl oV (by simp[Ai];omega) (by simp[Ai];omega) ?_;intro ex bn Q;rw[show F.map Cm++[.agg #[zI a,zI (1:Nat),zI H]]=(F++[(a,1,H)]).map Cm by rw[A1i];rfl]at Q;obtain⟨b0,b2,rfl⟩:=Q.shape;rw[A03]at Q⊢;have K:=a9 (W3 b0 b2 (F++[(a,1,H)])) bn Q;simp only[A2j,A2p]at K;exact G.i a<|G.b (V (a+1,bi,F++[(a,1,H)],(b0,b2),lab) _ _ _ cV ((((l4.trans E).trans am).trans cn).trans co) ⟨dV,b9,hF.put ax (.inl ⟨rfl,rfl,oV⟩),K⟩ dV)
    exact G.gF ap 0<|G.eF (2:Nat) 3<|G.i a<|G.b (V (a+1,bh,F,(fa,fc),lab) _ _ _ cV ((l4.trans E).trans am) ⟨dV,af,hF.skip,a7⟩ dV)
   refine G.lF lab 0<|G.eT (2:Nat) 2 ?_;obtain⟨fb,bx,ac⟩:=m;obtain⟨rfl,Y⟩:=Src.split bx;refine G.D call14 (Src.apart Y) (I4 (n:=4) (h.mono az) a3 oV oV) ?_;rintro er ei ef am ⟨ap,bh,rfl,d9,af,rfl⟩ _;have a7:Bag _ [s.arr bh,W3 fa fc F]:=⟨_,Src.at Y,ac⟩;by_cases e5:0<ap
   ·refine G.gT ap 0 ?_;have ad:=Y;have b4:=ac;refine G.D call14 (Src.apart ad) (I4 (n:=2) (h.mono (az.trans am)) af oV oV) ?_;rintro et ej eg cn ⟨H,bi,rfl,da,b9,rfl⟩ _;have a8:Bag _ [s.arr bi,W3 fa fc F]:=⟨_,Src.at ad,b4⟩;refine G.B 100 3 24 (.agg #[zO,zO,zO]) [.agg #[zI a,zI (1:Nat),zI H]] (Kg (a,1,H)) ?_;intro cg ek co cc;obtain⟨bl,ag,a9⟩:=a8.focus 1 rfl;rw[Acb]at ag;refine G.append 100 3 24 (.agg #[zO,zO,zO]) bl (F.map Cm) [.agg #[zI a,zI (1:Nat),zI H]] (.slice fa F.length fc) cg 0 1 1 kV rfl rfl oV ag cc (Kg (a,1,H)) rfl oV (by simp[Ai];omega) (by simp[Ai];omega) ?_;intro ex bn Q;rw[show F.map Cm++[.agg #[zI a,zI (1:Nat),zI H]]=(F++[(a,1,H)]).map Cm by rw[A1i];rfl]at Q;obtain⟨b0,b2,rfl⟩:=Q.shape;rw[A03]at Q⊢;have K:=a9 (W3 b0 b2 (F++[(a,1,H)])) bn Q;simp only[A2j,A2p]at K;exact G.i a<|G.b (V (a+1,bi,F++[(a,1,H)],(b0,b2),lab) _ _ _ cV (((l4.trans am).trans cn).trans co) ⟨dV,b9,hF.put ax (.inl ⟨rfl,rfl,oV⟩),K⟩ dV)
   exact G.gF ap 0<|G.eF (2:Nat) 3<|G.i a<|G.b (V (a+1,bh,F,(fa,fc),lab) _ _ _ cV (l4.trans am) ⟨dV,af,hF.skip,a7⟩ dV)
  refine G.eF kd 2<|G.eF kd 2 ?_;by_cases d2:kd=3
  ·subst d2;refine G.eT (3:Nat) 3 ?_;obtain⟨n5,Z,aw⟩:=m;obtain⟨rfl,ae⟩:=Src.split Z;refine G.D call14 (Src.apart ae) (I4 (n:=4) (h.mono az) a3 oV oV) ?_;rintro v5 u5 m5 E ⟨r5,k5,rfl,e8,a4,rfl⟩ _;have t:Bag _ [s.arr k5,W3 fa fc F]:=⟨_,Src.at ae,aw⟩;by_cases d8:0<r5
   ·refine G.gT r5 0<|G.B 100 3 24 (.agg #[zO,zO,zO]) [.agg #[zI a,zI (2:Nat),zI (0:Nat)]] (Kg (a,2,0)) ?_;intro g6 u6 l6 e6;obtain⟨cr,bg,ak⟩:=t.focus 1 rfl;rw[Acb]at bg;refine G.append 100 3 24 (.agg #[zO,zO,zO]) cr (F.map Cm) [.agg #[zI a,zI (2:Nat),zI (0:Nat)]] (.slice fa F.length fc) g6 0 1 1 kV rfl rfl oV bg e6 (Kg (a,2,0)) rfl oV (by simp[Ai];omega) (by simp[Ai];omega) ?_;intro w6 cs ab;rw[show F.map Cm++[.agg #[zI a,zI (2:Nat),zI (0:Nat)]]=(F++[(a,2,0)]).map Cm by rw[A1i];rfl]at ab;obtain⟨a6,c6,rfl⟩:=ab.shape;rw[A03]at ab⊢;have X:=ak (W3 a6 c6 (F++[(a,2,0)])) cs ab;simp only[A2j,A2p]at X;exact G.i a<|G.b (V (a+1,k5,F++[(a,2,0)],(a6,c6),lab) _ _ _ cV ((l4.trans E).trans l6) ⟨dV,a4,hF.put ax (.inr ⟨rfl,rfl,rfl⟩),X⟩ dV)
   exact G.gF r5 0<|G.i a<|G.b (V (a+1,k5,F,(fa,fc),lab) _ _ _ cV (l4.trans E) ⟨dV,a4,hF.skip,t⟩ dV)
  exact G.eF kd 3<|G.i a<|G.b (V (a+1,k3,F,(fa,fc),lab) _ _ _ cV l4 ⟨dV,a3,hF.skip,m⟩ dV)
 obtain rfl:a=T.length:=oV;refine G.lF T.length T.length ?_;obtain⟨n5,Z,aw⟩:=m;obtain⟨rfl,ae⟩:=Src.split Z;refine G.giveP (ma:=n5) (sm:=s.M k3) kV rfl (Src.apart ae) (s.h0 k k3) ?_;intro u5 E e3;have dw:Ac u5 (.slice fa F.length fc) 3 (F.map Cm):=aw.list e3 0 rfl;exact G.gF F.length 8<|G.r (.agg #[.slice ta T.length tc,.slice ra R.length rc,.slice fa F.length fc,zI lab]) ⟨T,R,F,lab,k3,⟨_,_,_,_,_,_,rfl,cw.mono (l4.trans E),dx.mono (l4.trans E),dw⟩,Aw6 hT.toTOK (hR.mono ((l3.trans l4).trans E)) hF cj oV oV,dy,a3,rfl,hT.toTOK,hT.lem,A04 hF.len hT.lem⟩
abbrev Dm:Type:=zW×Nat×(zP×Nat)
def F3 (y:Dm):Value:=.agg #[.slice y.2.2.1 y.1.length y.2.2.2,zI y.2.1]
def Yi (x:Dm):A9 2 [F3 x]:=by
 intro e h;simp at h;subst h;exact⟨rfl,fun y j=>by simp[F3,Value.cells]at j;rcases j with rfl|rfl<;>rfl⟩
def Avm (a:zP)(c:Nat)(L:List Dm):Arr:=⟨.slice a L.length c,53,2,L.map F3⟩
def Avq {a:zP}{c:Nat}{L:List Dm}{m0 m:PH}:(Avm a c L).At m0 m=Af m0 m (.slice a L.length c) 53 2 (L.map F3):=rfl
def WOK (u:PH)(T:zC)(L:List Dm):Prop:=∀ y∈L,Ac u (.slice y.2.2.1 y.1.length y.2.2.2) 1 (y.1.map nmV)/\Bw T y.1/\1<=y.2.1/\y.2.1<=7
def WOK.mono {u j:PH}{T:zC}{L:List Dm}(h:WOK u T L)(m:PH.le u j):WOK j T L:=fun y e=>⟨(h y e).1.mono m,(h y e).2⟩
def W9 (T:zC)(L:List Dm):Prop:=∀ y∈L,∀ (i:Nat) (x:zB×Nat) (t:zB),T[i]?=some x->y.1[i]?=some t->Zi x.2 t
def Ajh {u:PH}{s:Src}{ts:List Int}{k most:Nat}{v:Value}{T:zC}{R:List Br}{F:List Al}{lab:Int}(h:J0 u s ts)(hk:k<=s.n)(hX:H5 u v T R F lab)(ok:Bl u T R F lab)(hm:most<=100) :
 Ag prog 35 [s.ptr,v,zI most] u (s.M k) fun r Z m'=>∃ (L:List Dm) (k':Nat),Ac Z r 2 (L.map F3)/\L.length<=most/\WOK Z T L/\W9 T L/\k'<=s.n/\m'=s.M k':=by
 obtain⟨xa,xc,xb,xd,xe,xf,rfl,a1,aa,a9⟩:=id hX;have t2:=ok.t2;refine Ag.o func35<|G.i most<|G.A call14 (I4 (n:=most+1) h hk oV oV) ?_;rintro v1 u1 m1 l1 ⟨r,k1,rfl,hr,a2,rfl⟩ _;rw[By];refine G.l (ι:=Nat×Nat×List Dm×(zP×Nat)) (fun i=>[(0,.v s.ptr),(4,.p 0 0),(7,sV i.2.2.2.1 i.2.2.1.length i.2.2.2.2),(8,iV i.1)])
  (fun _=>[(0,⟨30,[sV xa T.length xc,sV xb R.length xd,sV xe F.length xf,iV lab]⟩)])
  (fun i Z m'=>i.1+i.2.2.1.length=r/\i.2.1<=s.n/\WOK Z T i.2.2.1/\W9 T i.2.2.1/\Bag m' [s.arr i.2.1,Avm i.2.2.2.1 i.2.2.2.2 i.2.2.1])
  (fun i=>i.1) (r,k1,[],(none,0))
  ⟨rfl,a2,fun y e=>by simp at e,fun y e=>by simp at e,s.bag0 k1 ⟨PH.mt,Af.nil _ _ _,trivial⟩⟩ ?_
 rintro J ⟨i,k2,L,⟨na,nc⟩⟩ hJ u2 m2 l2 ⟨hi,P,hW,h9,C⟩;simp only at hi P hW h9 C hJ;have Q:=l1.trans l2;obtain⟨m0,W,hL⟩:=C;obtain⟨rfl,j⟩:=Src.split W;by_cases ab:0<i
 ·refine G.gT i 0<|G.D call87 (Src.apart j) (Ami (w:=.slice xb R.length xd) (x:=.slice xe F.length xf) (y:=zI lab) (h.mono Q) P (a1.mono Q) oV ok.att.kind ⟨_,_,_,rfl⟩ ⟨_,_,_,rfl⟩ ⟨_,rfl⟩) ?_;rintro v3 u3 m3 Y ⟨ss,k3,hS,a0,U,a3,rfl⟩ _;obtain⟨E,H,rfl⟩:=hS.opn;rw[A03]at hS⊢;refine G.buildU 3 1 8 zO (Fc [1,1,2,7]) kV (N7 _) rfl oV (by simp[Fc]) (by simp[Fc]) ?_;intro g4 u4 l4 e4;refine G.D call88 (Src.apart j) (Aer (L:=[1,1,2,7]) (h.mono ((Q.trans Y).trans l4)) a3 e4.listP mV mV) ?_;rintro v5 u5 m5 l5 ⟨z,hz,k5,rfl,a4,rfl⟩ _;obtain⟨w,rfl,a6,a8⟩:∃ w:Nat,z=(w:Int)/\1<=w/\w<=7:=by
   simp at hz;rcases hz with rfl|rfl|rfl
   ·exact⟨1,rfl,oV,oV⟩
   ·exact⟨2,rfl,oV,oV⟩
   exact⟨7,rfl,oV,oV⟩
  refine G.B 53 2 32 (.agg #[zN,zO]) [.agg #[.slice E ss.length H,zI w]] (Yi (ss,w,E,H)) ?_;intro g6 u6 l6 e6;have I:Bag (m0.or (s.M k5)) [s.arr k5,Avm na nc L]:=⟨m0,Src.at j,hL⟩;obtain⟨mm,X,V⟩:=I.focus 1 rfl;rw[Avq]at X;refine G.k 53 2 32 (.agg #[zN,zO]) mm (L.map F3) [F3 (ss,w,E,H)] (.slice na L.length nc) g6 0 1 1 X e6 (Yi (ss,w,E,H)) ?_;intro v7 m7 m;rw[show L.map F3++[F3 (ss,w,E,H)]=(L++[(ss,w,E,H)]).map F3 by rw[A1i];rfl]at m;obtain⟨a7,c7,rfl⟩:=m.shape;rw[A03]at m⊢;have K:=V (Avm a7 c7 (L++[(ss,w,E,H)])) m7 m;have lx:=((Y.trans l4).trans l5).trans l6;refine G.s i 1 (i-1:Nat)<|G.b (hJ (i-1,k5,L++[(ss,w,E,H)],(a7,c7)) _ _ _ cV (l2.trans lx) ⟨by dsimp only;simp;omega,a4,?_,?_,K⟩ dV)
  ·intro y e;rcases A1h.1 e with e|e
   ·exact hW.mono lx y e
   simp only[A12]at e;subst e;exact⟨hS.mono ((l4.trans l5).trans l6),⟨a0,fun i x t h1 h2=>(U i x t h1 h2).ok⟩,a6,a8⟩
  intro y e;rcases A1h.1 e with e|e
  ·exact h9 y e
  simp only[A12]at e;subst e;exact U
 obtain rfl:i=0:=oV;refine G.gF (0:Nat) 0<|G.giveP (ma:=m0) (sm:=s.M k2) kV rfl (Src.apart j) (s.h0 k k2) ?_;intro u3 Y a5;exact G.r (.slice na L.length nc) ⟨L,k2,hL.list a5 0 rfl,oV,hW.mono Y,h9,P,rfl⟩
def Bfp {u:PH}{v H:Value}{T:List (Par×Rat)}(h:Ac u v 3 (T.map Bt))(t:Ac u H 3 (T.map Bt))(V:T.length<=1000000) :
 zF 97 [v,H] u fun r _=>r=zT:=by
 obtain⟨a,c,rfl⟩:=h.opn;obtain⟨I,F,rfl⟩:=t.opn;rw[A03]at h t⊢;refine Fn0.o func97<|G.nF T.length T.length<|G.l (ι:=Nat) (fun i=>[(0,sV a T.length c),(1,sV I T.length F),(12,iV T.length),(13,iV i)]) (fun _=>[])
  (fun i Z Q=>i<=T.length/\Q=PH.mt) (fun i=>T.length-i) 0 ⟨oV,rfl⟩ ?_
 rintro J i P u1 W E ⟨hi,rfl⟩;by_cases C:i<T.length
 ·refine G.lT i T.length ?_;have m:T[i]?=some T[i]:=A01 C;obtain⟨R,X,rfl,K⟩:=Ac.at' (h.mono E) (j:=i) (e:=Bt T[i]) (by simp[m]);obtain⟨U,Y,rfl,L⟩:=Ac.at' (t.mono E) (j:=i) (e:=Bt T[i]) (by simp[m]);exact G.n T.length c K<|G.n T.length F L<|G.neAgg 162 #[zI T[i].1.1,zS T[i].1.2,zS (Ae T[i].2)] #[zI T[i].1.1,zS T[i].1.2,zS (Ae T[i].2)] true kV kV kV (Bgh T[i])<|G.i i<|G.b (P (i+1) _ _ _ cV E ⟨oV,rfl⟩ oV)
 obtain rfl:i=T.length:=oV;exact G.lF T.length T.length<|G.z zT
section
variable {F:List Al}{R:List Br}{T:zC}{lab:Int}{u:PH}
def Ig {α:Type}{p:List α->Prop}(h0:p [])(h1:∀ l a,p l->p (l++[a]))(l:List α):p l:=by
 have:∀ r:List α,p r.reverse:=fun r=>by
  induction r with
  |nil=>exact h0
  |cons a r ih=>rw[List.reverse_cons];exact h1 _ _ ih
 have:=this l.reverse;rwa[List.reverse_reverse]at this
noncomputable def Cf (F:List Al)(lab:Int)(L:List Dm):CF:=L.foldl (fun C y=>C.add ((cfT F lab y.1).scale (y.2.1:Rat))) (CF.num 0)
def Eb (F:List Al)(lab:Int)(L:List Dm)(y:Dm):Cf F lab (L++[y])=(Cf F lab L).add ((cfT F lab y.1).scale (y.2.1:Rat)):=by
 unfold Cf;rw[A5w];rfl
def Auv {w:Nat}(h:w<=7):Dn 0 7 (w:Rat):=⟨(w:Int),by simp[A2r],by simpa using h⟩
def Apv {ss:zW}(ok:Bl u T R F lab)(h:Bw T ss):CFD (2*T.length) (1374926400^T.length) (cfT F lab ss)/\CFV (cfT F lab ss):=by
 have e:=N0 ok h;have j:(Fh F lab ss).length=T.length:=by rw[G3];exact h.len
 have:=R2 e (Fh F lab ss).length (A08 _);rw[A15,j]at this;exact this
theorem Alz (ok:Bl u T R F lab):∀ {L:List Dm},(∀ y∈L,Bw T y.1/\y.2.1<=7)->CFD (2*T.length) (L.length*(1374926400^T.length*7)) (Cf F lab L)/\CFV (Cf F lab L):=by
 intro L;induction L using Ig with
 |h0=>exact fun _=>⟨CFD.count (Dn.zero _ _),CFV.count 0⟩
 |h1 L y ih =>
  intro h;obtain⟨i1,i2⟩:=ih fun z hz=>h z (A24 _ hz);obtain⟨h1,h2⟩:=h y mV;obtain⟨c1,c2⟩:=Apv ok h1;rw[Eb];refine⟨?_,i2.add (c2.scale _)⟩;have:=i1.add (c1.scale (Auv h2));rw[A1d,A20,A16,A3i];exact this
end
section
variable {F:List Al}{T:zC}{lab:Int}
theorem Axf {ss:zW}(hF:Da T F lab)(u:Bw T ss)(e:-1<=lab)(j:∀ l:Nat,lab=(l:Int)->l<ss.length) :
 ((cfT F lab ss).c=1/\∀ p q,(cfT F lab ss).t (Ay p q)=(cfT F lab ss).s p*(cfT F lab ss).s q)\/((cfT F lab ss).c=0/\(∀ p,(cfT F lab ss).s p=0)/\∀ k,(cfT F lab ss).t k=0):=by
 cases hc:G4 F lab ss with
 |false=>right;rw[Ajl hF u e j hc];exact⟨rfl,fun _=>rfl,fun _=>rfl⟩
 |true =>
  left;have m:=Alr hF u e j hc;refine⟨m.c,fun p q=>?_⟩;rw[m.t,if_neg (To p q)];by_cases h:0<Bk p q
  ·rw[Ro h];grind
  rw[Ii h]
def Ah2 (n:Nat):(0:Rat)<=(n:Rat):=by
 have:((0:Nat):Rat)<=(n:Rat):=by exact_mod_cast A1t n
 exact this
theorem Arb (hF:Da T F lab)(h1:-1<=lab)(h2:∀ l:Nat,lab=(l:Int)->l<T.length):∀ {L:List Dm},(∀ y∈L,Bw T y.1/\y.2.1<=7)->∃ k:Nat,(Cf F lab L).c=(k:Rat)/\k<=7*L.length:=by
 intro L;induction L using Ig with
 |h0=>exact fun _=>⟨0,rfl,mV⟩
 |h1 L y ih =>
  intro h;obtain⟨k,hk,hkl⟩:=ih fun z hz=>h z (A24 _ hz);obtain⟨hy,hw⟩:=h y mV;have hlen:=hy.len;rw[Eb];show ∃ k:Nat,(Cf F lab L).c+(cfT F lab y.1).c*(y.2.1:Rat)=(k:Rat)/\_;rw[hk];rw[A1d,A20];rcases Axf hF hy h1 (fun l hl=>by have:=h2 l hl;omega) with ⟨e1,_⟩|⟨e1,_⟩
  ·exact⟨k+y.2.1,by rw[e1,Rat.natCast_add];grind,oV⟩
  ·exact⟨k,by rw[e1];grind,oV⟩
end
section
variable {a b c d:Nat}{q:Rat}
def De (a b:Nat)(q:Rat):Prop:=∃ (k:Int) (D:Nat),q*(D:Rat)=(k:Rat)/\0<D/\k.natAbs<10^a/\D<10^b
def T4 {D:Nat}(h:0<D):(D:Rat)≠0:=by
 intro e;have j:(D:Rat)=((0:Nat):Rat):=e;have:=A9l.1 j;omega
def De.mono (h:De a b q)(j:a<=c)(m:b<=d):De c d q:=by
 obtain⟨k,D,e,h0,t,u⟩:=h;exact⟨k,D,e,h0,A2s t (A10 oV j),A2s u (A10 oV m)⟩
def Qy {x y a b:Nat}(e:x<10^a)(h:y<10^b):x*y<10^(a+b):=by
 rw[A4k];exact Nat.mul_lt_mul'' e h
theorem De.add {a b c d f:Nat}{q r:Rat}(h:De a b q)(u:De c d r)(C:a+d<=f)(F:c+b<=f):De (f+1) (b+d) (q+r):=by
 obtain⟨k,D,e,h0,H,j⟩:=h;obtain⟨l,E,t,I,J,m⟩:=u;refine⟨k*(E:Int)+l*(D:Int),D*E,?_,A51 h0 I,?_,Qy j m⟩
 ·rw[A7d,A3c,A3c,<-e,<-t,A7e,A2r,A2r];grind
 have g1:(k*(E:Int)).natAbs<10^f:=by
  rw[A26];exact A2s (Qy H (by simpa using m)) (A10 oV C)
 have g2:(l*(D:Int)).natAbs<10^f:=by
  rw[A26];exact A2s (Qy J (by simpa using j)) (A10 oV F)
 rw[A2d];omega
theorem De.nat {a n:Nat}(h:n<10^a):De a 1 (n:Rat):=⟨(n:Int),1,by rw[A2r];show (n:Rat)*1=_;grind,oV,by simpa using h,oV⟩
theorem De.frac (h:De a b q):q.num.natAbs<10^a/\q.den<10^b:=by
 obtain⟨k,D,m,hp,t,F⟩:=h;have u:q=Rat.divInt k (D:Int):=by
  rw[A37,A2r,<-m];have:=T4 hp;grind
 obtain⟨e,j,C⟩:=O7 (y:=k) (z:=(D:Int)) oV;rw[u];constructor
 ·rw[e,A8o];exact A22 (A3u _ _) t
 have E:((Rat.divInt k (D:Int)).den:Int)<=(D:Int):=by
  rw[j,show ((D:Int)).natAbs=D from rfl,A32 oV,<-A5k];exact Bao.2 (A3u _ _)
 omega
def De.tx (h:De a b q)(u:0<a)(e:a<=400)(C:0<b)(j:b<=400):Tx q:=by
 obtain⟨m,t⟩:=h.frac;exact⟨A04 (Cz u m) e,A04 (Cz C t) j⟩
def Dn.de {d N a b:Nat}(h:Dn d N q)(m:N<10^a)(j:12^d<10^b):De a b q:=by
 obtain⟨k,e,t⟩:=h;exact⟨k,12^d,e,Adj d,oV,j⟩
end
section
variable {H:CF}
def B9 {α:Type}(f:α->Rat):List α->Rat
 |[]=>0
 |a::l=>f a+B9 f l
section
variable {α β:Type} {f g:α->Rat}
theorem U7:∀ (l l':List α),B9 f (l++l')=B9 f l+B9 f l'
 |[],l'=>by show B9 f l'=0+B9 f l';grind
 |a::l,l'=>by show f a+B9 f (l++l')=f a+B9 f l+B9 f l';rw[U7 l l'];grind
theorem Ang (l:List α)(a:α):B9 f (l++[a])=B9 f l+f a:=by
 rw[U7];show _+(f a+0)=_;grind
def Dt:∀ {l:List α},(∀ a∈l,f a=g a)->B9 f l=B9 g l
 |[],_=>rfl
 |a::l,h=>by
  show f a+B9 f l=g a+B9 g l;rw[h a (A4l ..),Dt fun x e=>h x (A2f _ e)]
theorem L7:∀ (l:List α),B9 (fun a=>f a+g a) l=B9 f l+B9 g l
 |[]=>by show (0:Rat)=0+0;grind
 |a::l=>by show f a+g a+B9 (fun a=>f a+g a) l=(f a+B9 f l)+(g a+B9 g l);rw[L7 l];grind
theorem Ls (k:Rat):∀ (l:List α),B9 (fun a=>f a*k) l=B9 f l*k
 |[]=>by show (0:Rat)=0*k;grind
 |a::l=>by show f a*k+B9 (fun a=>f a*k) l=(f a+B9 f l)*k;rw[Ls k l];grind
theorem Ji (k:Rat)(l:List α):B9 (fun a=>k*f a) l=k*B9 f l:=by
 rw[show (fun a=>k*f a)=fun a=>f a*k from funext fun a=>by grind,Ls];grind
theorem Fv:∀ {l:List α},(∀ a∈l,f a=0)->B9 f l=0
 |[],_=>rfl
 |a::l,h=>by
  show f a+B9 f l=0;rw[h a (A4l ..),Fv fun x e=>h x (A2f _ e)];grind
def So (h:β->α):∀ (l:List β),B9 f (l.map h)=B9 (fun b=>f (h b)) l
 |[]=>rfl
 |a::l=>by show f (h a)+B9 f (l.map h)=f (h a)+B9 (fun b=>f (h b)) l;rw[So h l]
end
def An (P:List Par):List (Option Par):=none::P.map some
def B7:Par:=(-1,[])
def As (C:CF):Option Par->Option Par->Rat
 |none,none=>C.c
 |none,some p=>C.s p
 |some p,none=>C.s p
 |some p,some q=>C.t (Ay p q)
def Bh (C:CF):Option Par->Rat
 |none=>C.s B7
 |some p=>C.t (Ay B7 p)
def Dh (b:Option Par->Rat)(P:List Par)(C:CF):Rat:=B9 (fun e=>B9 (fun f=>b e*As C e f*b f) (An P)) (An P)
def T1 (C H:CF)(w:Rat)(e f:Option Par):As (C.add (H.scale w)) e f=As C e f+As H e f*w:=by
 cases e<;>cases f<;>rfl
def Bde (C H:CF)(w:Rat)(e:Option Par):Bh (C.add (H.scale w)) e=Bh C e+Bh H e*w:=by
 cases e<;>rfl
theorem Am0 (b:Option Par->Rat)(P:List Par)(C H:CF)(w:Rat):Dh b P (C.add (H.scale w))=Dh b P C+Dh b P H*w:=by
 unfold Dh;rw[<-Ls w,<-L7];refine Dt fun e _=>?_;rw[<-Ls w,<-L7];refine Dt fun f _=>?_;rw[T1];grind
def Anc (b:Option Par->Rat)(P:List Par)(x:Par->Rat):Rat:=b none+B9 (fun p=>b (some p)*x p) P
def Zg (x:Par->Rat):Option Par->Rat
 |none=>1
 |some p=>x p
theorem Aej (b:Option Par->Rat)(P:List Par)(x:Par->Rat):B9 (fun e=>b e*Zg x e) (An P)=Anc b P x:=by
 unfold An Anc;show b none*1+B9 _ (P.map some)=_;rw[So];show b none*1+B9 (fun p=>b (some p)*x p) P=_;grind
structure Qi (H:CF):Prop where
 c:H.c=1
 t:∀ p q,H.t (Ay p q)=H.s p*H.s q
theorem Qi.cell (h:Qi H)(e f:Option Par):As H e f=Zg H.s e*Zg H.s f:=by
 cases e<;>cases f
 ·show H.c=1*1;rw[h.c];grind
 ·show H.s _=1*H.s _;grind
 ·show H.s _=H.s _*1;grind
 exact h.t _ _
theorem Qi.right (h:Qi H)(e:Option Par):Bh H e=H.s B7*Zg H.s e:=by
 cases e
 ·show H.s B7=H.s B7*1;grind
 exact h.t _ _
theorem Qi.norm (h:Qi H)(b:Option Par->Rat)(P:List Par):Dh b P H=Anc b P H.s*Anc b P H.s:=by
 unfold Dh;have j:∀ e,B9 (fun f=>b e*As H e f*b f) (An P)=(b e*Zg H.s e)*Anc b P H.s:=fun e=>by
  rw[<-Aej,<-Ji];exact Dt fun f _=>by rw[h.cell];grind
 rw[Dt fun e _=>j e,Ls,Aej]
structure Ag0 (H:CF):Prop where
 c:H.c=0
 s:∀ p,H.s p=0
 t:∀ k,H.t k=0
def Ag0.cell (h:Ag0 H)(e f:Option Par):As H e f=0:=by
 cases e<;>cases f
 ·exact h.c
 ·exact h.s _
 ·exact h.s _
 exact h.t _
theorem Ag0.norm (h:Ag0 H)(b:Option Par->Rat)(P:List Par):Dh b P H=0 :=
 Fv fun e _=>Fv fun f _=>by rw[h.cell];grind
theorem Pf {T:zC}{F:List Al}{lab:Int}{ss:zW}(hF:Da T F lab)(u:Bw T ss)(e:-1<=lab)(j:∀ l:Nat,lab=(l:Int)->l<ss.length) :
 (G4 F lab ss=true/\Qi (cfT F lab ss))\/(G4 F lab ss=false/\Ag0 (cfT F lab ss)):=by
 cases hc:G4 F lab ss with
 |false=>right;rw[Ajl hF u e j hc];exact⟨rfl,rfl,fun _=>rfl,fun _=>rfl⟩
 |true =>
  left;have m:=Alr hF u e j hc;refine⟨rfl,m.c,fun p q=>?_⟩;rw[m.t,if_neg (To p q)];by_cases h:0<Bk p q
  ·rw[Ro h];grind
  rw[Ii h]
end
section
variable {q:Rat}{u:PH}
def S7 (h:Tx q):zF 103 [zS (Ae q)] u fun v _=>v=zI (sgn q.num):=by
 refine Fn0.o func103<|G.c call169 (Gu h) ?_;rintro L I F rfl;refine G.c call133 (Gs h) ?_;intro P J l2 e;obtain⟨E,a1,n1,c1,m,j,C,t,rfl⟩:=e.opn;refine G.c call131 (Aao e (A04 h.sz.1 oV)) ?_;rintro Q K H rfl;exact G.z _
def Agd (h:Tx q):zF 25 [zS (Ae q)] u fun v _=>v=zI (sgn q.num):=by
 refine Fn0.o func25<|G.c call24 (Ee h) ?_;rintro L I E rfl;refine G.c call27 (G8 h) ?_;intro P J F e;obtain⟨C,a3,n3,c3,j,t,m,rfl,_⟩:=e.opn;refine G.c call33 (Aef e (A04 h.sz.1 oV)) ?_;rintro Q K H rfl;exact G.z _
end
structure Ai6 (C:CF)(k:Nat):Prop where
 c:C.c=(k:Rat)
 lt:k<100
 s:∀ p,De 75 18 (C.s p)
 t:∀ p,De 75 18 (C.t p)
def Ai6.tx {C:CF}{k:Nat}(h:Ai6 C k):Tx C.c:=by
 rw[h.c];exact (De.nat (a:=2) (by have:=h.lt;omega)).tx oV oV oV oV
def Ai6.cpos {C:CF}{k:Nat}(h:Ai6 C k)(h0:k≠0):0<C.c:=by
 rw[h.c];have j:=Ah2 k;refine Rat.lt_of_le_of_ne j fun e=>T4 (D:=k) oV e.symm
def Cp (P:List Par):(An P).length=P.length+1:=by unfold An;simp
def Aq2 {u:PH}:zF 55 [] u fun r _=>r=Ap B7:=Fn0.o func55<|G.z (Ap B7)
section
variable {N d:Nat}{q:Rat}
theorem Dn.lift (j:Nat)(h:Dn d N q):Dn (d+j) (N*12^j) q:=by
 obtain⟨k,e,m⟩:=h;refine⟨k*((12^j:Nat):Int),?_,?_⟩
 ·rw[A3c,A2r,<-e,A4k,A7e];grind
 rw[A26];exact A13 _ m
def Dn.to {d e N M:Nat}(h:Dn d N q)(m:d<=e)(j:N*12^(e-d)<=M):Dn e M q:=by
 have:=h.lift (e-d);rw[show d+(e-d)=e by omega]at this;exact this.mono j
end
section
open Go.RowKit Go.MapKept Go.Shelf Go.Sort
variable {L:List Par}
def S1 (L:List Par):A2 (L.map Ap)=L.flatMap Ci:=by
 unfold A2;rw[List.flatMap_map];rfl
def F0 (L:List Par):(L.flatMap Ci).length=L.length*2:=by
 induction L with
 |nil=>rfl
 |cons x L ih=>rw[A6o,A1d,ih,Nf,A3f,A16];omega
def Add {L e:List Par}(u:e.length=L.length)(rest:zV):putCells id 0 (flatK Ci 2 e.toArray) (L.flatMap Ci++rest).toArray=(e.flatMap Ci++rest).toArray:=by
 have j:=F0 L;have m:=F0 e;have C:(flatK Ci 2 e.toArray).size=e.length*2:=by rw[size_flatK];simp
 apply Baq;intro t;unfold putCells;rw[Array.getElem?_mapIdx,A3j,A3j,C];by_cases h:t<e.length*2
 ·rw[A1r oV,A1r oV,Qb Nf e t h];have:(L.flatMap Ci)[t]?=some (L.flatMap Ci)[t]:=A01 oV;rw[this];simp only[A4c,A1t,A2w,true_and,if_pos h,id,A6t];rw[get_flatK Ci 2 _ t (by simpa using h)]
 rw[A18 oV,A18 oV,j,m,u];cases hr:rest[t-L.length*2]? with
 |none=>rfl
 |some x =>
  simp only[A4c,A1t,A2w,true_and];rw[if_neg oV]
def Aex (L:List Par):A9 2 (L.map Ap):=by
 intro e j;obtain⟨x,_,rfl⟩:=A1b.1 j;exact⟨rfl,fun y h=>by simp[Ap,Value.cells]at h;rcases h with rfl|rfl<;>rfl⟩
def Aq7 {u m0 m:PH}{v:Value}(hA:Af m0 m v 118 2 (L.map Ap))(a6:L.Nodup)(hl:L.length<=1000000) :
 Ag prog 267 [v,.func (.func 200) #[] #[]] u m fun r u' m'=>r=.tuple #[]/\Af m0 m' v 118 2 ((E6 Bk L).map Ap):=by
 have hp:=Ir (c:=Bk) L;have P:(E6 Bk L).length=L.length:=hp.length_eq;intro w R;obtain⟨a7,h⟩:=hA;rcases h with ⟨rfl,he,rfl⟩|⟨g,cap,rest,a2,rfl,rfl,T,K,Q⟩
 ·have hL:L = []:=by simpa using he
  subst hL;refine (AnyF.slices_SortFunc_none Tryz.sortPar none 0 _ w).mono ?_;rintro e w' ⟨rfl,rfl⟩;exact⟨_,u,m,rfl,R,⟨A08 _,fun _ _ _=>rfl,fun _ _=>rfl,fun _ _ h=>h,⟨rfl,rfl⟩,fun f=>f.elim⟩,rfl,by
   have e:E6 Bk ([]:List Par) = []:=A9i.1 P;rw[e];exact Af.nil _ _ _⟩
 rw[A03]at T⊢;rw[S1]at K R;have W:w.heap[g]?=some (.cells (L.flatMap Ci++rest).toArray 118 (0,0)):=R.pm g _ (Ab _ _ _);have hH:HoldsK Ci 2 w g 0 L.toArray:=Ani (enc:=Ci) (k:=2) Nf W (by
  show (L.flatMap Ci++rest).take (L.length*2)=_;rw[A6n (by rw[F0];omega),A1j (by rw[F0];omega)])
 have a0:g<w.heap.size:=Aw W;have J:=AnyQ.slices_SortFunc_total Tryz.sortPar 2 (fun w=>kV) (fun w=>kV) Ci (fun _=>rfl) (fun x v hv=>by simp at hv;rcases hv with rfl|rfl<;>rfl) Bk Et.swo 200 #[] g 0 cap L.toArray w call200 (Ai5 g 0 _ w) hH a0 gV Et.tot
 change Calls prog 267 _ _ _ at J;simp only[A7s]at J;refine Calls.mono J ?_;rintro e w' ⟨rfl,nn,os,rfl⟩;change Ady _ _ _ (sortWorldK Ci 2 w g 0 nn (E6 Bk L).toArray os);obtain⟨w',Y⟩:∃ w',w'=sortWorldK Ci 2 w g 0 nn (E6 Bk L).toArray os:=⟨_,rfl⟩;have F:w'.heap=w.heap.modify g (onCells (putCells id 0 (flatK Ci 2 (E6 Bk L).toArray)))++os:=by rw[Y];rfl
 have a3:w'.os=w.os/\w'.output=w.output:=by rw[Y];exact⟨rfl,rfl⟩
 rw[<-Y];have a4:w.heap.size<=w'.heap.size:=by rw[F,Array.size_append,A83];omega
 have I:∀ k,k<w.heap.size->k≠g->w'.heap[k]?=w.heap[k]?:=fun k C X=>by
  rw[F,A5s (by rw[A83];exact C),A8c,if_neg (fun e=>X e.symm)]
 have U:w'.heap[g]?=some (.cells ((E6 Bk L).flatMap Ci++rest).toArray 118 (0,0)):=by
  rw[F,A5s (by rw[A83];exact a0),A8c,if_pos rfl,W];show some (Obj.cells (putCells id 0 _ _) _ _)=_;rw[Add P]
 have a5:u g=none:=(R.ap g).resolve_right (by rw[Ab];simp);have V:=Aex (E6 Bk L);refine⟨_,fun k=>if k<w.heap.size then u k else w'.heap[k]?,m0.upd g (.cells (A2 ((E6 Bk L).map Ap)++rest).toArray 118 (0,0)),rfl,⟨?_,?_,?_,?_⟩,⟨a4,?_,?_,?_,a3,fun f=>f.elim⟩,rfl,V,.inr ⟨g,cap,rest,a2,rfl,by rw[A03,P],by rw[A03,P];exact T,?_,Q⟩⟩
 ·intro k o C;simp only at C;split at C
  ·rename_i H;have X:k≠g:=fun e=>by subst e;rw[a5]at C;cases C
   rw[I k H X];exact R.pu k o C
  exact C
 ·intro k o C;by_cases e:k=g
  ·subst e;rw[Ab]at C;cases C;rw[U,S1]
  rw[Ad _ _ e]at C;have:=R.pm k o (by rw[Ad _ _ e];exact C);rw[I k (Aw this) e];exact this
 ·intro k;simp only;by_cases H:k<w.heap.size
  ·rw[if_pos H];rcases R.ap k with h|h
   ·exact .inl h
   by_cases e:k=g
   ·subst e;rw[Ab]at h;cases h
   right;rw[Ad _ _ e]at h⊢;exact h
  right;have e:k≠g:=fun e=>oV;rw[Ad _ _ e];have:=R.pm.none (g:=k) (by show w.heap.size<=k;omega);rw[Ad _ _ e]at this;exact this
 ·intro k cs t fr j z C hj;simp only;by_cases H:k<w.heap.size
  ·rw[if_pos H];by_cases e:k=g
   ·subst e;rw[U]at C;cases C;exfalso;have a1:Value.int .u64 z∈(E6 Bk L).flatMap Ci++rest:=by
     rw[A3j]at hj;exact A1k hj
    have Z:∀ x∈(E6 Bk L).flatMap Ci++rest,Ax x=true:=fun x hx=>by
     rcases A1h.1 hx with h|h
     ·rw[<-S1]at h;exact Fu V x h
     exact Q x h
    have:=Z _ a1;cases this
   rw[I k H e]at C;exact R.cl k cs t fr j z C hj
  rw[if_neg H];exact C
 ·intro k C E;refine I k C fun e=>?_;subst e;simp only at E;rw[Ab]at E;cases E
 ·intro k C;simp only;exact if_pos C
 ·intro k C E;by_cases e:k=g
  ·subst e;simp only at E;rw[Ab]at E;cases E
  simp only at E;rw[Ad _ _ e]at E⊢;exact E
 rw[S1,A1d,F0,P];rw[A1d,F0]at K;exact K
end
section
variable {F:List Al}{R:List Br}{T:zC}{lab:Int}{n:Nat}{u:PH}{v:Value}
def Adm (F:List Al)(lab:Int)(p:Par):Prop:=(p.1 = -1/\0<=lab/\p.2 = [])\/(∃ (k:Nat) (f:Al),p.1=(k:Int)/\F[k]?=some f/\(f.2.1=2\/p.2 = []))
def Ap8 {p:Par}(Q:H5 u v T R F lab)(ok:Bl u T R F lab)(hp:Adm F lab p) :
 zF 265 [v,Ap p] u fun r _=>r=zT:=by
 obtain⟨xa,xc,Z,xd,xe,X,rfl,P,L,C⟩:=Q;have U:=ok.f2;refine Fn0.o func265 ?_;rcases hp with ⟨m,t,h⟩|⟨k,f,m,H,h⟩
 ·exact G.eT' p.1 (-1) m<|G.hT' lab 0 t<|G.q p.2 [] h<|G.z zT
 obtain⟨Y,W⟩:=p;simp only at m h;subst m;have V:=(A05.1 H).1;obtain⟨E,I,rfl,J⟩:=Ac.at' C (j:=k) (e:=Cm f) (by simp[H]);obtain⟨f1,f2,K⟩:=f;simp only at h;refine G.eF k (-1)<|G.hF k F.length<|G.a E I F.length X k 3 V<|G.f 100 E (I+k*3) 1 1<|G.g none (J.fld (j:=1) (xs:=#[zI f1,zI f2,zI K]) rfl rfl) ?_;by_cases t:f2=2
 ·exact G.eT f2 2<|G.z zT
 exact G.eF f2 2<|G.q W [] (h.resolve_left t)<|G.z zT
def Av4 {u m:PH}{b:Nat}{x:Par×Rat}(E:ElP m b 0 v)(h:H5 u v T R F lab)(ok:Bl u T R F lab)(hp:Adm F lab x.1) :
 FnK prog 264 [Bt x,.pointer (zA b)] u m fun v _=>v=zL:=by
 have e:=Ap8 h ok hp;obtain⟨xa,xc,K,L,P,Q,rfl,C,t,j⟩:=h;refine FnK.of func264 kV kV<|G.v (some 4) E<|G.c call265 e ?_;rintro J I H rfl;exact G.z zL
def Arx {u m:PH}{v cap:Value}{T:List (Par×Rat)}{fid:Nat}(h:Ac u v 3 (T.map Bt))(X:T.length<=1000000)
 (t:∀ args w,(callFunc fid args).run prog w=.ok (.enter fid args) w) (P:∀ p∈T,∀ I,PH.le u I->FnK prog fid [Bt p,cap] I m fun v _=>v=zL) :
 FnK prog 301 [v,.func (.func fid) #[] #[cap]] u m fun V _=>V=zI (-1):=by
 obtain⟨a,c,rfl⟩:=h.opn;rw[A03]at h⊢;refine FnK.of func301 kV kV<|G.l (ι:=Nat) (fun i=>[(0,sV a T.length c),(1,.v (.func (.func fid) #[] #[cap])),(7,iV T.length),(8,iV i)]) (fun _=>[])
  (fun i I Q=>i<=T.length/\Q=m) (fun i=>T.length-i) 0 ⟨oV,rfl⟩ ?_
 rintro J i L U Y H ⟨hi,rfl⟩;by_cases C:i<T.length
 ·refine G.lT i T.length ?_;have E:T[i]?=some T[i]:=A01 C;obtain⟨W,Z,rfl,K⟩:=Ac.at' (h.mono H) (j:=i) (e:=Bt T[i]) (by simp[E]);refine G.n T.length c K<|G.callK fid [Bt T[i],cap] kV t (P T[i] (A09 C) U H) ?_;rintro v2 u2 l2 rfl;exact G.i i<|G.b (L (i+1) _ _ _ cV (H.trans l2) ⟨oV,rfl⟩ oV)
 obtain rfl:i=T.length:=oV;exact G.lF T.length T.length<|G.z (zI (-1))
def Agu {u m:PH}{v cap:Value}{T:List (Par×Rat)}{fid:Nat}(h:Ac u v 3 (T.map Bt))(C:T.length<=1000000)
 (e:∀ args w,(callFunc fid args).run prog w=.ok (.enter fid args) w) (t:∀ p∈T,∀ j,PH.le u j->FnK prog fid [Bt p,cap] j m fun v _=>v=zL) :
 FnK prog 263 [v,.func (.func fid) #[] #[cap]] u m fun E _=>E=zL:=by
 obtain⟨a,c,rfl⟩:=h.opn;refine FnK.of func263 kV kV<|G.callK _ _ kV call301 (Arx h C e t) ?_;rintro J I H rfl;exact G.hF (-1) 0<|G.z zL
def Dy (F:List Al)(n:Nat):zK:=(List.range n).filter fun i=>(F.getD i (0,0,0)).2.1==1
def Amd {f:Al}(j:F[n]?=some f):Dy F (n+1)=if f.2.1=1 then Dy F n++[n] else Dy F n:=by
 unfold Dy;rw[A5d,List.filter_append];have e:(F.getD n (0,0,0))=f:=by simp[A02,j]
 by_cases h:f.2.1=1
 ·rw[if_pos h,List.filter_cons_of_pos (by rw[e];simp[h])];rfl
 rw[if_neg h,List.filter_cons_of_neg (by rw[e];simp[h])];simp
def Aez (F:List Al)(n:Nat):(Dy F n).length<=n:=by
 unfold Dy;exact A04 (A8d _ _) mV
def Xo {n i:Nat}:i∈Dy F n↔i<n/\(F.getD i (0,0,0)).2.1=1:=by
 unfold Dy;simp[A7a]
def Aii (F:List Al)(n:Nat):(Dy F n).Nodup:=List.nodup_range.filter _
def Aeh (W:H5 u v T R F lab)(ok:Bl u T R F lab) :
 zF 266 [v] u fun r Y=>Ac Y r 1 (Ai (Dy F F.length)):=by
 have K:=Adn W ok;obtain⟨xa,xc,xb,xd,xe,Z,rfl,a1,a0,H⟩:=W;have a2:=ok.f2;refine Fn0.o func266<|G.c call98 K ?_;rintro v1 u1 l1 rfl;refine G.nF 0 0<|G.l (ι:=Nat×(zP×Nat)) (fun i=>[(3,sV i.2.1 (Dy F i.1).length i.2.2),(10,sV xe F.length Z),(11,iV F.length),(12,iV i.1)]) (fun _=>[])
  (fun i Y m'=>i.1<=F.length/\Af PH.mt m' (.slice i.2.1 (Dy F i.1).length i.2.2) 3 1 (Ai (Dy F i.1))) (fun i=>F.length-i.1) (0,(none,0)) ⟨oV,Af.nil _ _ _⟩ ?_
 rintro J ⟨i,⟨P,Q⟩⟩ I u2 m2 l2 ⟨hi,m⟩;simp only at hi m I;have L:=l1.trans l2;have a3:=Aez F i;by_cases C:i<F.length
 ·refine G.lT i F.length ?_;obtain⟨f,t⟩:∃ f,F[i]?=some f:=⟨_,A01 C⟩;have E:=Amd t;obtain⟨fb,fo,rfl,ef⟩:=Ac.at' (H.mono L) (j:=i) (e:=Cm f) (by simp[t]);obtain⟨p1,U,p3⟩:=f;simp only at E;refine G.N F.length Z C ef ?_;by_cases V:U=1
  ·rw[if_pos V]at E;refine G.eT U 1<|G.buildU 3 1 8 zO (Ai [i]) kV (Av [i]) rfl oV (by simp[Ai]) (by simp[Ai]) ?_;intro g3 u3 X e3;refine G.append 3 1 8 zO PH.mt (Ai (Dy F i)) (Ai [i]) (.slice P (Dy F i).length Q) g3 0 1 1 kV rfl rfl oV m e3 (Av [i]) rfl oV (by simp[Ai];omega) (by simp[Ai];omega) ?_;intro v4 m4 h;have e4:Ai (Dy F i)++Ai [i]=Ai (Dy F (i+1)):=by rw[E];simp[Ai]
   rw[e4]at h;obtain⟨a4,c4,rfl⟩:=h.shape;have e5:(Ai (Dy F (i+1))).length=(Dy F (i+1)).length:=by simp[Ai]
   rw[e5]at h⊢;exact G.i i<|G.b (I (i+1,(a4,c4)) _ _ _ cV (l2.trans X) ⟨dV,h⟩ dV)
  rw[if_neg V]at E;refine G.eF U 1<|G.i i ?_;rw[<-E]at m⊢;exact G.b (I (i+1,(P,Q)) _ _ _ cV l2 ⟨dV,m⟩ dV)
 obtain rfl:i=F.length:=oV;refine G.lF F.length F.length<|G.give _ _ _ kV m (fun g=>.inl rfl) ?_;intro u3 X hL;exact G.r (.slice P (Dy F F.length).length Q) ⟨rfl,hL⟩
end
section
open Go.RowKit Go.MapKept Go.Sort
variable {A:List (Par×Rat)}{C:CF}{F:List Al}
def Bew (F:List Al)(p:Par):Bool:=decide (0<=p.1)&&(F.getD p.1.toNat (0,0,0)).2.1==2
def J9 (F:List Al)(A:List (Par×Rat))(n:Nat):List Par:=((A.take n).map (·.1)).filter (Bew F)
theorem Am7 {n:Nat}{x:Par×Rat}(h:A[n]?=some x):J9 F A (n+1)=if Bew F x.1=true then J9 F A n++[x.1] else J9 F A n:=by
 unfold J9;have e:A.take (n+1)=A.take n++[x]:=by rw[A1n,h];rfl
 by_cases j:Bew F x.1=true
 ·grind
 grind
def Aq1 (F:List Al)(A:List (Par×Rat))(n:Nat):(J9 F A n).length<=A.length:=by
 refine A04 (A8d _ _) ?_;rw[A03,A1e];omega
def Li (i:Nat):Par:=((i:Int),[])
def Le (F:List Al):List Par:=(Dy F F.length).map Li
def K1 (p:Par):A9 2 [Ap p]:=Aex [p]
def Aec (m:(A.map (·.1)).Nodup):(Le F++J9 F A A.length).Nodup:=by
 refine A4p.2 ⟨?_,?_,?_⟩
 ·refine List.Pairwise.map _ (fun a b h e=>?_) (Aii F F.length);unfold Li at e;simp only[A2i]at e;exact h oV
 ·unfold J9;rw[A15];exact m.filter _
 intro a t b u e;subst e;obtain⟨i,hi,rfl⟩:=A1b.1 t;have j:=(A7a.1 u).2;unfold Bew Li at j;simp only[A1m,beq_iff_eq,A23]at j;have E:=(Xo.1 hi).2;omega
theorem Anj (m:Can Bk C.s A){p:Par}:p∈Le F++J9 F A A.length↔(∃ (i:Nat) (f:Al),p=Li i/\F[i]?=some f/\f.2.1=1)\/(C.s p≠0/\∃ (i:Nat) (f:Al),p.1=(i:Int)/\F[i]?=some f/\f.2.1=2):=by
 have t:p∈A.map (·.1)↔C.s p≠0:=by
  constructor
  ·intro h;obtain⟨x,E,rfl⟩:=A1b.1 h;obtain⟨e,j⟩:=m.val x E;rw[<-e];exact j
  intro h;exact A3m fun u=>h (m.out p u)
 rw[A1h];refine or_congr ?_ ?_
 ·unfold Le;rw[A1b];constructor
  ·rintro⟨i,hi,rfl⟩;obtain⟨e,j⟩:=Xo.1 hi;refine⟨i,F[i],rfl,A01 e,?_⟩;rw[A02,A01 e,A4w]at j;exact j
  rintro⟨i,f,rfl,hf,e⟩;refine⟨i,Xo.2 ⟨(A05.1 hf).1,?_⟩,rfl⟩;rw[A02,hf,A4w];exact e
 unfold J9;unfold Bew;constructor
 ·grind
 grind
abbrev Nn (F:List Al)(C:CF)(L:List Par):Prop :=
 Hb Bk L/\∀ p,p∈L↔(∃ (i:Nat) (f:Al),p=Li i/\F[i]?=some f/\f.2.1=1)\/(C.s p≠0/\∃ (i:Nat) (f:Al),p.1=(i:Int)/\F[i]?=some f/\f.2.1=2)
def Nn.eq {L e:List Par}(h:Nn F C L)(j:Nn F C e):L=e :=
 Agg Et h.1 j.1 fun p=>(h.2 p).trans (j.2 p).symm
def Azr (u:PH)(r:Value)(F:List Al)(C:CF):Prop :=
 (r=.tuple #[zN,zI 3]/\∃ L,24<L.length/\Nn F C L)\/∃ (ps:Value) (L:List Par),r=.tuple #[ps,zO]/\Ac u ps 2 (L.map Ap)/\L.length<=24/\Nn F C L
theorem Ahd {u:PH}{v w:Value}{T:zC}{R:List Br}{lab:Int}{K:Nat}(hX:H5 u v T R F lab)(ok:Bl u T R F lab)(hC:No u w C K)(sC:CFS C)(vC:CFV C)(hK:K<=100000)(hb:∀ p,C.s p≠0->Adm F lab p) :
 zF 232 [v,w] u fun r u'=>Azr u' r F C:=by
 have ai:=fun (u':PH) (l:PH.le u u')=>Adn (hX.mono l) (ok.mono l);have an:=fun (u':PH) (l:PH.le u u')=>Ax1 (hC.mono l) sC vC oV;obtain⟨xa,xc,xb,xd,xe,W,rfl,ar,aq,ag⟩:=id hX;obtain⟨A,Q,a1,c1,a2,c2,rfl,hA,hQ,cA,cQ,kA,kQ⟩:=hC;have aw:=ok.f2;refine Fn0.o func232<|G.c call98 (ai u (PH.le_refl _)) ?_;rintro v1 u1 l1 rfl;refine G.nF 0 0<|G.c call262 (an u1 l1) ?_;rintro v2 u2 l2 rfl;have V:=l1.trans l2;refine G.pub 0 30 [.slice xa T.length xc,.slice xb R.length xd,.slice xe F.length W,zI lab] kV kV ?_;intro b au av;have a3:∀ (m':PH),m' b=some (.cells [Value.slice xa T.length xc,.slice xb R.length xd,.slice xe F.length W,zI lab].toArray 30 (0,0))->ElP m' b 0 (.agg #[.slice xa T.length xc,.slice xb R.length xd,.slice xe F.length W,zI lab]):=fun m' h=>My (xs:=[.slice xa T.length xc,.slice xb R.length xd,.slice xe F.length W,zI lab]) h rfl;obtain⟨H,ac⟩:∃ H:PH,H=PH.mt.upd b (.cells [Value.slice xa T.length xc,.slice xb R.length xd,.slice xe F.length W,zI lab].toArray 30 (0,0)):=⟨_,rfl⟩;have E:H b=some (.cells [Value.slice xa T.length xc,.slice xb R.length xd,.slice xe F.length W,zI lab].toArray 30 (0,0)):=by rw[ac];exact Ab _ _ _
 rw[<-ac];refine G.callK _ _ kV call263 (Agu (cap:=.pointer (zA b)) (hA.mono V) oV call264 fun x hx u' l'=>Av4 (a3 H E) (hX.mono (V.trans l')) (ok.mono (V.trans l')) (hb x.1 (by obtain⟨q1,q2⟩:=cA.val x hx;rw[<-q1];exact q2))) ?_;rintro v3 u3 l3 rfl;have a9:=V.trans l3;refine G.v (some 4) (a3 H E)<|G.c call266 (Aeh (hX.mono a9) (ok.mono a9)) ?_;intro v4 u4 l4 hN;obtain⟨na,nc,rfl⟩:=hN.opn;have al:(Ai (Dy F F.length)).length=(Dy F F.length).length:=by simp[Ai]
 rw[al]at hN⊢;have ay:=Aez F F.length;have ao:=a9.trans l4;refine G.l (ι:=Nat×(zP×Nat)) (fun i=>[(2,.v (.pointer (zA b))),(3,.p 1 0),(6,sV i.2.1 ((Dy F F.length).take i.1).length i.2.2),(28,sV na (Dy F F.length).length nc),(29,iV ((Dy F F.length).length)),(30,iV i.1)])
  (fun _=>[(1,⟨38,[tV (Ae C.c),sV a1 A.length c1,sV a2 Q.length c2]⟩)])
  (fun i u' m'=>i.1<=(Dy F F.length).length/\Af H m' (.slice i.2.1 ((Dy F F.length).take i.1).length i.2.2) 118 2 ((((Dy F F.length).take i.1).map Li).map Ap)) (fun i=>(Dy F F.length).length-i.1) (0,(none,0)) ⟨oV,Af.nil _ _ _⟩ ?_
 rintro J ⟨i,⟨pa,pc⟩⟩ X u5 m5 l5 ⟨hi,m⟩;simp only at hi m X;have ap:=ao.trans l5;by_cases t:i<(Dy F F.length).length
 ·refine G.lT i ((Dy F F.length).length:Int) ?_;obtain⟨k,hk⟩:∃ k,(Dy F F.length)[i]?=some k:=⟨_,A01 t⟩;have am:(Dy F F.length).take (i+1)=(Dy F F.length).take i++[k]:=by rw[A1n,hk];rfl
  obtain⟨bb,ob,rfl,eb⟩:=Ac.at' (hN.mono l5) (j:=i) (e:=zI k) (by simp[Ai,hk]);have b1:((Dy F F.length).take i).length=i:=by rw[A1e];omega
  refine G.N (Dy F F.length).length nc t eb<|G.B 118 2 24 (.agg #[zO,zE]) [.agg #[zI k,zE]] (K1 (Li k)) ?_;intro g6 u6 l6 e6;refine G.k 118 2 24 (.agg #[zO,zE]) H _ [Ap (Li k)] _ g6 0 1 1 m e6 (K1 (Li k)) ?_;intro v7 m7 I;have e7:(((Dy F F.length).take i).map Li).map Ap++[Ap (Li k)]=(((Dy F F.length).take (i+1)).map Li).map Ap:=by rw[am];simp
  rw[e7]at I;obtain⟨a7,c7,rfl⟩:=I.shape;rw[A03,A03]at I⊢;exact G.i i<|G.b (X (i+1,(a7,c7)) _ _ _ cV (l5.trans l6) ⟨dV,I⟩ dV)
 obtain rfl:i=(Dy F F.length).length:=oV;refine G.lF ((Dy F F.length).length:Int) ((Dy F F.length).length:Int) ?_;clear X;rw[A15]at m⊢;have aa:Af H m5 (.slice pa (Le F++J9 F A 0).length pc) 118 2 ((Le F++J9 F A 0).map Ap):=by
  have e1:J9 F A 0 = []:=rfl;have e2:(Le F).length=(Dy F F.length).length:=by unfold Le;simp
  rw[e1,A1x,e2];exact m
 have e0:(Dy F F.length).length=(Le F++J9 F A 0).length:=by
  have e1:J9 F A 0 = []:=rfl;have e2:(Le F).length=(Dy F F.length).length:=by unfold Le;simp
  rw[e1,A1x,e2]
 rw[e0];have az:(Le F).length<=8:=by unfold Le;rw[A03];omega
 refine G.l (ι:=Nat×(zP×Nat)) (fun i=>[(2,.v (.pointer (zA b))),(6,sV i.2.1 (Le F++J9 F A i.1).length i.2.2),(41,sV a1 A.length c1),(42,iV A.length),(43,iV i.1)]) (fun _=>[])
  (fun i u' m'=>i.1<=A.length/\Af H m' (.slice i.2.1 (Le F++J9 F A i.1).length i.2.2) 118 2 ((Le F++J9 F A i.1).map Ap)) (fun i=>A.length-i.1) (0,(pa,pc)) ⟨oV,aa⟩ ?_
 clear m aa e0;rintro J ⟨i,⟨pa,pc⟩⟩ X u6 m6 l6 ⟨hi,m⟩;simp only at hi m X;have ae:=ap.trans l6;have ax:=Aq1 F A i;by_cases t:i<A.length
 ·refine G.lT i A.length ?_;obtain⟨x,a0⟩:∃ x,A[i]?=some x:=⟨_,A01 t⟩;have Z:=Am7 (F:=F) a0;have Y:Adm F lab x.1:=hb x.1 (by obtain⟨q1,q2⟩:=cA.val x (A1k a0);rw[<-q1];exact q2);obtain⟨ba,oa,rfl,ea⟩:=Ac.at' (hA.mono ae) (j:=i) (e:=Bt x) (by simp[a0]);obtain⟨⟨p1,p2⟩,q⟩:=x;simp only at Z Y;refine G.N A.length c1 t ea ?_;have step:∀ {u7:PH},PH.le u6 u7->Bew F (p1,p2)=false->True:=fun _ _=>trivial;by_cases h0:0<=p1
  ·refine G.hT' p1 0 h0 ?_;obtain⟨k,f,aj,a4⟩:∃ (k:Nat) (f:Al),p1=(k:Int)/\F[k]?=some f:=by
    rcases Y with ⟨h1,_⟩|⟨k,f,h1,hf,_⟩
    ·simp only at h1;omega
    exact⟨k,f,h1,hf⟩
   subst aj;have ak:=(A05.1 a4).1;have ad:m6 b=some (.cells [Value.slice xa T.length xc,.slice xb R.length xd,.slice xe F.length W,zI lab].toArray 30 (0,0)):=m.see E;refine G.f 30 b 0 2 2<|G.v none ((a3 m6 ad).fld (j:=2) (xs:=#[.slice xa T.length xc,.slice xb R.length xd,.slice xe F.length W,zI lab]) rfl rfl) ?_;obtain⟨fb,fo,rfl,ef⟩:=Ac.at' (ag.mono ae) (j:=k) (e:=Cm f) (by simp[a4]);refine G.a fb fo F.length W k 3 ak ?_;obtain⟨f1,f2,f3⟩:=f;refine G.f 100 fb (fo+k*3) 1 1<|G.g none (ef.fld (j:=1) (xs:=#[zI f1,zI f2,zI f3]) rfl rfl) ?_;have a6:Bew F ((k:Int),p2)=(f2==2):=by
    unfold Bew;simp only[A23,A02,a4,A4w];rw[decide_eq_true oV];rfl
   rw[a6]at Z;by_cases h2:f2=2
   ·rw[if_pos (by simpa using h2)]at Z;refine G.eT f2 2<|G.B 118 2 24 (.agg #[zO,zE]) [.agg #[zI k,zS p2]] (K1 ((k:Int),p2)) ?_;intro g7 u7 l7 e7;refine G.k 118 2 24 (.agg #[zO,zE]) H _ [Ap ((k:Int),p2)] _ g7 0 1 1 m e7 (K1 ((k:Int),p2)) ?_;intro v8 m8 P;have e8:(Le F++J9 F A i).map Ap++[Ap ((k:Int),p2)]=(Le F++J9 F A (i+1)).map Ap:=by rw[Z];simp
    rw[e8]at P;obtain⟨a8,c8,rfl⟩:=P.shape;rw[A03]at P⊢;exact G.i i<|G.b (X (i+1,(a8,c8)) _ _ _ cV (l6.trans l7) ⟨dV,P⟩ dV)
   rw[if_neg (by simpa using h2)]at Z;refine G.eF f2 2<|G.i i ?_;rw[<-Z]at m⊢;exact G.b (X (i+1,(pa,pc)) _ _ _ cV l6 ⟨dV,m⟩ dV)
  refine G.hF' p1 0 h0 ?_;have a6:Bew F (p1,p2)=false:=by
   unfold Bew;rw[decide_eq_false h0];rfl
  rw[a6,if_neg mV]at Z;refine G.i i ?_;rw[<-Z]at m⊢;exact G.b (X (i+1,(pa,pc)) _ _ _ cV l6 ⟨dV,m⟩ dV)
 obtain rfl:i=A.length:=oV;refine G.lF A.length A.length ?_;have U:(Le F++J9 F A A.length).Nodup:=Aec (cA.srt.nodup Et);have a5:∀ p,p∈Le F++J9 F A A.length↔_:=fun p=>Anj (F:=F) cA (p:=p);have ab:(Le F++J9 F A A.length).length<=1000000:=by grind
 generalize Le F++J9 F A A.length=L at m U a5 ab;by_cases af:24<L.length
 ·exact G.gT L.length 24<|G.drop PH.mt kV (PH.mt_le _)<|G.r (.tuple #[zN,zI 3]) ⟨rfl,.inl ⟨rfl,E6 Bk L,by rw[(Ir (c:=Bk) L).length_eq];exact af,Va Et U,fun p=>(Ir (c:=Bk) L).mem_iff.trans (a5 p)⟩⟩
 refine G.gF L.length 24<|G.callA _ _ kV kV call267 (By m6).symm (Ef m6) (Aq7 m U ab) ?_;rintro v7 u7 m7 l7 ⟨rfl,hS⟩ _;have hp:=Ir (c:=Bk) L;have b0:(E6 Bk L).length=L.length:=hp.length_eq;refine G.give _ _ _ kV hS (fun g=>.inl rfl) ?_;intro u8 l8 ah;exact G.drop PH.mt kV (PH.mt_le _)<|G.r (.tuple #[.slice pa L.length pc,zO]) ⟨rfl,.inr ⟨_,E6 Bk L,rfl,ah,oV,Va Et U,fun p=>hp.mem_iff.trans (a5 p)⟩⟩
end
section
variable {A:List (Par×Rat)}{C:CF}{F:List Al}{i n:Nat}{p:Par}
def Hi (F:List Al)(A:List (Par×Rat))(i:Nat):List Par:=if (F.getD i (0,0,0)).2.1=1 then [Li i] else (A.map (·.1)).filter fun p=>p.1==(i:Int)
def He (F:List Al)(A:List (Par×Rat))(n:Nat):List Par:=(List.range n).flatMap (Hi F A)
def Tn (F:List Al)(A:List (Par×Rat))(n:Nat):He F A (n+1)=He F A n++Hi F A n:=by
 unfold He;rw[A5d,List.flatMap_append];simp
theorem Aa4 (h:p∈Hi F A i):p.1=(i:Int):=by
 unfold Hi at h;split at h
 ·simp at h;subst h;rfl
 grind
def Aqy (h:p∈He F A n):0<=p.1/\p.1<(n:Int):=by
 obtain⟨i,hi,hp⟩:=A57.1 h;have:=Aa4 hp;simp at hi;omega
def As1 {p q:Par}(h:p.1<q.1):Bk p q<0:=by
 unfold Bk Q1;rw[if_pos h,if_pos oV];omega
def Tu {F:List Al}{A:List (Par×Rat)}(e:Hb Bk (A.map (·.1))):∀ n,Hb Bk (He F A n)
 |0=>List.Pairwise.nil
 |n+1=>by
  rw[Tn];refine A35.2 ⟨Tu e n,?_,fun p hp q h=>?_⟩
  ·unfold Hi;split
   ·exact A6f _ _
   exact e.filter _
  have j:=Aqy hp;have m:=Aa4 h;exact As1 oV
theorem Aed (u:Can Bk C.s A)(I:∀ f∈F,f.2.1=1\/f.2.1=2):p∈He F A F.length↔(∃ (i:Nat) (f:Al),p=Li i/\F[i]?=some f/\f.2.1=1)\/(C.s p≠0/\∃ (i:Nat) (f:Al),p.1=(i:Int)/\F[i]?=some f/\f.2.1=2):=by
 have m:p∈A.map (·.1)↔C.s p≠0:=by
  constructor
  ·intro h;obtain⟨x,H,rfl⟩:=A1b.1 h;obtain⟨j,t⟩:=u.val x H;rw[<-j];exact t
  intro h;exact A3m fun E=>h (u.out p E)
 unfold He;rw[A57];constructor
 ·rintro⟨i,hi,hp⟩;unfold Hi at hp;split at hp
  ·grind
  grind
 rintro (⟨i,f,rfl,hf,j⟩|⟨h0,i,f,j,hf,t⟩)
 ·have e:F.getD i (0,0,0)=f:=by simp[A02,hf]
  refine⟨i,by simpa using (A05.1 hf).1,?_⟩;unfold Hi;rw[e,if_pos j];simp
 have e:F.getD i (0,0,0)=f:=by simp[A02,hf]
 refine⟨i,by simpa using (A05.1 hf).1,?_⟩;unfold Hi;rw[e,if_neg oV];exact A7a.2 ⟨m.2 h0,by simpa using j⟩
theorem Apt (n:Nat):(He F A n).length<=n*(A.length+1):=by
 induction n with
 |zero=>exact A1t _
 |succ n ih =>
  rw[Tn,A1d,A16,A3i];have:(Hi F A n).length<=A.length+1:=by
   unfold Hi;split
   ·simp
   grind
  omega
def Ho (A:List (Par×Rat))(i n:Nat):List Par:=((A.take n).map (·.1)).filter fun p=>p.1==(i:Int)
theorem Ain {x:Par×Rat}(h:A[n]?=some x):Ho A i (n+1)=if x.1.1=(i:Int) then Ho A i n++[x.1] else Ho A i n:=by
 unfold Ho;have e:A.take (n+1)=A.take n++[x]:=by rw[A1n,h];rfl
 by_cases j:x.1.1=(i:Int)
 ·grind
 grind
def Aml (A:List (Par×Rat))(i n:Nat):(Ho A i n).length<=A.length:=by
 refine A04 (A8d _ _) ?_;rw[A03,A1e];omega
def Aif {u:PH}{v w:Value}{T:zC}{R:List Br}{lab:Int}{K:Nat}(hX:H5 u v T R F lab)(ok:Bl u T R F lab)(hC:No u w C K)(sC:CFS C)(vC:CFV C)(hK:K<=10000)(hb:∀ p,C.s p≠0->Adm F lab p) :
 zF 37 [v,w] u fun r u'=>Azr u' r F C:=by
 have an:=fun (u':PH) (l:PH.le u u')=>T2 (hX.mono l) (ok.mono l);have ar:=fun (u':PH) (l:PH.le u u')=>Ahu (hC.mono l) sC vC oV;have af:∀ f∈F,f.2.1=1\/f.2.1=2:=fun f U=>by
  obtain⟨n,k,_,Y,_⟩:=ok.feat.ok f U;rcases Y with ⟨Y,_⟩|⟨Y,_⟩
  ·exact .inl Y
  exact .inr Y
 obtain⟨xa,xc,xb,xd,xe,xf,rfl,ay,ax,ak⟩:=id hX;obtain⟨A,Q,a1,c1,a2,c2,rfl,hA,hQ,cA,cQ,kA,kQ⟩:=hC;have az:=ok.f2;have am:∀ n,n<=8->(He F A n).length<=100000:=fun n hn=>by
  have:=Apt (F:=F) (A:=A) n;have Y:n*(A.length+1)<=8*(A.length+1):=A13 _ hn;omega
 refine Fn0.o func37<|G.c call45 (an u (PH.le_refl _)) ?_;rintro v1 u1 l1 rfl;refine G.nF 0 0<|G.c call92 (ar u1 l1) ?_;rintro v2 u2 l2 rfl;have au:=l1.trans l2;refine G.l (ι:=Nat×(zP×Nat)) (fun i=>[(2,.p 0 0),(3,.p 1 0),(7,sV i.2.1 (He F A i.1).length i.2.2),(26,sV xe F.length xf),(27,iV F.length),(28,iV i.1)])
  (fun _=>[(0,⟨30,[sV xa T.length xc,sV xb R.length xd,sV xe F.length xf,iV lab]⟩),(1,⟨38,[tV (Ae C.c),sV a1 A.length c1,sV a2 Q.length c2]⟩)])
  (fun i u' m'=>i.1<=F.length/\Af PH.mt m' (.slice i.2.1 (He F A i.1).length i.2.2) 118 2 ((He F A i.1).map Ap)) (fun i=>F.length-i.1) (0,(none,0)) ⟨oV,Af.nil _ _ _⟩ ?_
 rintro J ⟨i,⟨pa,pc⟩⟩ hJ u3 m3 l3 ⟨hi,P⟩;simp only at hi P hJ;have a4:=au.trans l3;have aq:=am i oV;by_cases ag:i<F.length
 ·refine G.lT i F.length ?_;obtain⟨f,a8⟩:∃ f,F[i]?=some f:=⟨_,A01 ag⟩;have ad:F.getD i (0,0,0)=f:=by simp[A02,a8]
  have hs:=Tn F A i;obtain⟨fb,fo,rfl,ef⟩:=Ac.at' (ak.mono a4) (j:=i) (e:=Cm f) (by simp[a8]);obtain⟨f1,f2,f3⟩:=f;refine G.N F.length xf ag ef ?_;by_cases ae:f2=1
  ·have hp:Hi F A i = [Li i]:=by unfold Hi;rw[ad,if_pos ae]
   rw[hp]at hs;refine G.eT f2 1<|G.B 118 2 24 (.agg #[zO,zE]) [.agg #[zI i,zE]] (K1 (Li i)) ?_;intro g6 u6 l6 e6;refine G.k 118 2 24 (.agg #[zO,zE]) PH.mt ((He F A i).map Ap) [Ap (Li i)] _ g6 0 1 1 P e6 (K1 (Li i)) ?_;intro v7 m7 E;rw[show (He F A i).map Ap++[Ap (Li i)]=(He F A (i+1)).map Ap by rw[hs];simp]at E;obtain⟨a7,c7,rfl⟩:=E.shape;rw[A03]at E⊢;exact G.i i<|G.b (hJ (i+1,(a7,c7)) _ _ _ cV (l3.trans l6) ⟨dV,E⟩ dV)
  have hp:Hi F A i=Ho A i A.length:=by unfold Hi Ho;rw[ad,if_neg ae,A15]
  rw[hp]at hs;refine G.eF f2 1 ?_;have aa:Af PH.mt m3 (.slice pa (He F A i++Ho A i 0).length pc) 118 2 ((He F A i++Ho A i 0).map Ap):=by
   rw[show Ho A i 0 = [] from rfl,A1x];exact P
  have e0:(He F A i).length=(He F A i++Ho A i 0).length:=by rw[show Ho A i 0 = [] from rfl,A1x]
  rw[e0];refine G.l (ι:=Nat×(zP×Nat)) (fun n=>[(2,.p 0 0),(3,.p 1 0),(7,sV n.2.1 (He F A i++Ho A i n.1).length n.2.2),(8,iV i),(26,sV (some ⟨fb,fo,none⟩) F.length xf),(27,iV F.length),(28,iV i),(42,sV a1 A.length c1),(43,iV A.length),(44,iV n.1)])
   (fun _=>[(0,⟨30,[sV xa T.length xc,sV xb R.length xd,sV (some ⟨fb,fo,none⟩) F.length xf,iV lab]⟩),(1,⟨38,[tV (Ae C.c),sV a1 A.length c1,sV a2 Q.length c2]⟩)])
   (fun n u' m'=>n.1<=A.length/\Af PH.mt m' (.slice n.2.1 (He F A i++Ho A i n.1).length n.2.2) 118 2 ((He F A i++Ho A i n.1).map Ap)) (fun n=>A.length-n.1) (0,(pa,pc)) ⟨oV,aa⟩ ?_
  clear P aa e0;rintro J2 ⟨n,⟨pa,pc⟩⟩ I u4 m4 l4 ⟨hn,P⟩;simp only at hn P I;have b1:=Aml A i n;by_cases V:n<A.length
  ·refine G.lT n A.length ?_;obtain⟨x,a6⟩:∃ x,A[n]?=some x:=⟨_,A01 V⟩;have W:=Ain (i:=i) a6;obtain⟨ba,oa,rfl,ea⟩:=Ac.at' (hA.mono (a4.trans l4)) (j:=n) (e:=Bt x) (by simp[a6]);obtain⟨⟨t,H⟩,q⟩:=x;simp only at W;refine G.N A.length c1 V ea ?_;by_cases Z:t=(i:Int)
   ·rw[if_pos Z]at W;refine G.eT' t i Z<|G.B 118 2 24 (.agg #[zO,zE]) [.agg #[zI t,zS H]] (K1 (t,H)) ?_;intro g6 u6 l6 e6;refine G.k 118 2 24 (.agg #[zO,zE]) PH.mt ((He F A i++Ho A i n).map Ap) [Ap (t,H)] _ g6 0 1 1 P e6 (K1 (t,H)) ?_;intro v7 m7 E;rw[show (He F A i++Ho A i n).map Ap++[Ap (t,H)]=(He F A i++Ho A i (n+1)).map Ap by rw[W];simp]at E;obtain⟨a7,c7,rfl⟩:=E.shape;rw[A03]at E⊢;exact G.i n<|G.b (I (n+1,(a7,c7)) _ _ _ cV (l4.trans l6) ⟨dV,E⟩ dV)
   rw[if_neg Z]at W;refine G.eF' t i Z<|G.i n ?_;rw[<-W]at P⊢;exact G.b (I (n+1,(pa,pc)) _ _ _ cV l4 ⟨dV,P⟩ dV)
  obtain rfl:n=A.length:=oV;refine G.lF A.length A.length<|G.i i ?_;rw[<-hs]at P⊢;exact G.b (hJ (i+1,(pa,pc)) _ _ _ cV (l3.trans l4) ⟨dV,P⟩ dV)
 obtain rfl:i=F.length:=oV;refine G.lF F.length F.length ?_;clear hJ;have a0:∀ p,p∈He F A F.length↔_:=fun p=>Aed (F:=F) cA af (p:=p);have X:Hb Bk (He F A F.length):=Tu cA.srt _;generalize aw:He F A F.length=L at P a0 X aq;have ap:∀ x∈A,(x.1.1 = -1/\0<=lab/\x.1.2 = [])\/(0<=x.1.1/\x.1∈L):=fun x hx=>by
  obtain⟨q1,q2⟩:=cA.val x hx;have ah:C.s x.1≠0:=by rw[<-q1];exact q2
  rcases hb x.1 ah with h|⟨k,f,h1,U,h3⟩
  ·exact .inl h
  refine .inr ⟨oV,(a0 x.1).2 ?_⟩;rcases af f (A1k U) with h4|h4
  ·refine .inl ⟨k,f,?_,U,h4⟩;obtain⟨⟨t,H⟩,q⟩:=x;simp only at h1 h3;rw[h1,h3.resolve_left oV];rfl
  exact .inr ⟨ah,k,f,h1,U,h4⟩
 refine G.l (ι:=Nat) (fun i=>[(2,.p 0 0),(7,sV pa L.length pc),(61,sV a1 A.length c1),(62,iV A.length),(63,iV i)])
  (fun _=>[(0,⟨30,[sV xa T.length xc,sV xb R.length xd,sV xe F.length xf,iV lab]⟩)])
  (fun i u' m'=>i<=A.length/\m'=m3) (fun i=>A.length-i) 0 ⟨oV,rfl⟩ ?_
 rintro J i hJ u4 m4 l4 ⟨b0,rfl⟩;have av:=a4.trans l4;by_cases a3:i<A.length
 ·refine G.lT i A.length ?_;obtain⟨x,a5⟩:∃ x,A[i]?=some x:=⟨_,A01 a3⟩;have hx:=ap x (A1k a5);obtain⟨ba,oa,rfl,ea⟩:=Ac.at' (hA.mono av) (j:=i) (e:=Bt x) (by simp[a5]);obtain⟨⟨t,H⟩,q⟩:=x;simp only at hx;refine G.N A.length c1 a3 ea ?_;rcases hx with ⟨h1,Y,h3⟩|⟨h1,Y⟩
  ·exact G.eT' t (-1) h1<|G.hT' lab 0 Y<|G.q H [] h3<|G.i i<|G.b (hJ (i+1) _ _ _ cV l4 ⟨oV,rfl⟩ oV)
  refine G.eF t (-1)<|G.l (ι:=Nat×Bool) (fun n=>[(2,.p 0 0),(7,sV pa L.length pc),(13,.p 21002 0),(14,bV n.2),(61,sV (some ⟨ba,oa,none⟩) A.length c1),(62,iV A.length),(63,iV i),(82,sV pa L.length pc),(83,iV L.length),(84,iV n.1)])
   (fun _=>[(0,⟨30,[sV xa T.length xc,sV xb R.length xd,sV xe F.length xf,iV lab]⟩),(21002,⟨162,[iV t,tV H,tV (Ae q)]⟩)])
   (fun n u' m'=>n.1<=L.length/\m'=m4/\n.2=(L.take n.1).any fun y=>decide (y=(t,H))) (fun n=>L.length-n.1) (0,false) ⟨oV,rfl,rfl⟩ ?_
  rintro J2 ⟨n,ai⟩ I u5 m5 l5 ⟨hn,rfl,U⟩;simp only at hn U I;by_cases V:n<L.length
  ·refine G.lT n L.length ?_;obtain⟨y,a9⟩:∃ y,L[n]?=some y:=⟨_,A01 V⟩;have m:((L.take (n+1)).any fun y=>decide (y=(t,H)))=(((L.take n).any fun y=>decide (y=(t,H)))||decide (y=(t,H))):=by
    rw[A1n,a9,List.any_append];simp
   obtain⟨gs,cs,ac⟩:=P.ptr (fun e=>by
    have:L.length=0:=by simpa using congrArg List.length e
    omega)
   simp only[Value.slice.injEq]at ac;obtain⟨rfl,_,rfl⟩:=ac;have ao:ElP m5 gs (0+n*2) (Ap y):=P.el (by rw[A1a,a9];rfl);refine G.O L.length pc V ao ?_;cases ai with
   |true =>
    refine G.i n ?_;rw[<-U,Bool.true_or]at m;exact G.b (I (n+1,true) _ _ _ cV l5 ⟨dV,rfl,m.symm⟩ dV)
   |false =>
    rw[<-U,A80]at m;by_cases Z:y=(t,H)
    ·rw[decide_eq_true Z]at m;exact G.eqAgg 118 #[zI y.1,zS y.2] #[zI t,zS H] true kV kV kV (fun w=>by rw[<-decide_eq_true Z];exact Bq.eq y (t,H) w)<|G.i n<|G.b (I (n+1,true) _ _ _ cV l5 ⟨dV,rfl,m.symm⟩ dV)
    rw[decide_eq_false Z]at m;exact G.eqAgg 118 #[zI y.1,zS y.2] #[zI t,zS H] false kV kV kV (fun w=>by rw[<-decide_eq_false Z];exact Bq.eq y (t,H) w)<|G.i n<|G.b (I (n+1,false) _ _ _ cV l5 ⟨dV,rfl,m.symm⟩ dV)
  obtain rfl:n=L.length:=oV;refine G.lF L.length L.length ?_;have ab:((L.take L.length).any fun y=>decide (y=(t,H)))=true:=by
   rw[A15];exact A5h.2 ⟨_,Y,mV⟩
  rw[ab]at U;subst U;exact G.i i<|G.b (hJ (i+1) _ _ _ cV (l4.trans l5) ⟨oV,rfl⟩ oV)
 obtain rfl:i=A.length:=oV;refine G.lF A.length A.length ?_;by_cases aj:24<L.length
 ·exact G.gT L.length 24<|G.drop PH.mt kV (PH.mt_le _)<|G.r (.tuple #[zN,zI 3]) ⟨rfl,.inl ⟨rfl,L,aj,X,a0⟩⟩
 refine G.gF L.length 24<|G.give _ _ _ kV P (fun g=>.inl rfl) ?_;intro u8 l8 al;exact G.r (.tuple #[.slice pa L.length pc,zO]) ⟨rfl,.inr ⟨_,L,rfl,al,oV,X,a0⟩⟩
end
section
variable [Cl] [Co]
end
structure Bfe (u:PH)(v:Value)(m0:Rat)(M:List (Par×Rat)):Prop where
 val:∃ a c,v=.agg #[zS (Ae m0),.slice a M.length c]/\Ac u (.slice a M.length c) 3 (M.map Bt)
def Bfe.mono {u j:PH}{v:Value}{m0:Rat}{M:List (Par×Rat)}(h:Bfe u v m0 M)(t:PH.le u j):Bfe j v m0 M:=by
 obtain⟨a,c,e,m⟩:=h.val;exact⟨a,c,e,m.mono t⟩
def cfE (m0:Rat)(M:List (Par×Rat)):Option Par->Rat
 |none=>m0
 |some p=>Fo p M
def Bga {u:PH}{v:Value}{P:List Par}(C:Ac u v 2 (P.map Ap))(T:Hb Bk P)(Y:P.length<=1000000) :
 zF 166 [v] u fun r _=>r=zT:=by
 obtain⟨pa,pc,rfl⟩:=C.opn;rw[A03]at C⊢;refine Fn0.o func166<|G.l (ι:=Nat) (fun i=>[(0,sV pa P.length pc),(3,iV i)]) (fun _=>[])
  (fun i u' V=>1<=i/\V=PH.mt) (fun i=>P.length-i) 1 ⟨oV,rfl⟩ ?_
 rintro J i R u2 Z l2 ⟨hi,rfl⟩;by_cases h:i<P.length
 ·refine G.lT i P.length ?_;have t:=C.mono l2;have E:P[i]?=some P[i]:=A01 h;have F:P[i-1]?=some (P[i-1]'oV):=A01 oV;have H:Bk (P[i-1]'oV) P[i]<0:=A3n.1 T (i-1) i oV h oV;obtain⟨X,oa,I,L⟩:=Ac.at' t (j:=i) (e:=Ap P[i]) (by simp[E]);obtain⟨K,W,m,Q⟩:=Ac.at' t (j:=i-1) (e:=Ap (P[i-1]'oV)) (by simp[F]);rw[I]at m;cases m;subst I;refine G.s i 1 (i-1:Nat)<|G.n P.length pc Q<|G.N P.length pc h L<|G.c call127 (Re _ _ true (decide_eq_true H)) ?_;rintro v3 u3 U rfl;exact G.i i<|G.b (R (i+1) _ _ _ cV (l2.trans U) ⟨oV,rfl⟩ oV)
 exact G.lF i P.length<|G.z zT
structure Te (u:PH)(v cv:Value)(T:zC)(R:List Br)(F:List Al)(lab:Int)(C:CF)(K k:Nat)(P:List Par):Prop where
 sch:H5 u v T R F lab
 ok:Bl u T R F lab
 cof:No u cv C K
 sC:CFS C
 vC:CFV C
 K:K<=10000
 bel:∀ p,C.s p≠0->Adm F lab p
 mom:Ai6 C k
 prm:Nn F C P
 p24:P.length<=24
 lab0:0<=lab
 d:CFD 16 (10^75) C
def Te.mono {u m:PH}{v j:Value}{T:zC}{R:List Br}{F:List Al}{lab:Int}{C:CF}{K k:Nat}{P:List Par}(h:Te u v j T R F lab C K k P)(e:PH.le u m):Te m v j T R F lab C K k P :=
 ⟨h.sch.mono e,h.ok.mono e,h.cof.mono e,h.sC,h.vC,h.K,h.bel,h.mom,h.prm,h.p24,h.lab0,h.d⟩
def CFD.to {d e N M:Nat}{F:CF}(h:CFD d N F)(j:d<=e)(m:N*12^(e-d)<=M):CFD e M F:=⟨h.c.to j m,fun p=>(h.s p).to j m,fun q=>(h.t q).to j m⟩
theorem A0j {q n d j:Rat}(e:q=n*j)(hi:d*j=1):q*d=n:=by rw[e];grind
section
variable {F:List Al}{lab:Int}{p:Par}{ss:zW}
def Ak0 {p:Par}:∀ (L:List LF) (C:CF),(Iv C L).s p≠0->C.s p≠0\/∃ q,some (some (p,q))∈L
 |[],C,h=>.inl h
 |x::L,C,h=>by
  rcases Ak0 L (C.mul x.cf) h with u|⟨q,E⟩
  ·rcases G1 (a:=x.cf.s p*C.c) (b:=C.s p*x.cf.c) u with m|m
   ·right;have j:=(C1 m).1
    match x,j with
    |none,j=>exact absurd rfl j
    |some none,j=>exact absurd rfl j
    |some (some (p',q)),j =>
     have t:(if p=p' then q else 0)≠0:=j;by_cases e:p=p'
     ·subst e;exact⟨q,A4l ..⟩
     rw[if_neg e]at t;exact absurd rfl t
   exact .inl (C1 m).1
  exact .inr ⟨q,A2f _ E⟩
def Yf (h:(cfT F lab ss).s p≠0):Adm F lab p/\∃ (a:Nat) (q:Rat),(Fh F lab ss)[a]?=some (some (some (p,q)))/\∀ (i:Nat) (f:Al),p.1=(i:Int)->F[i]?=some f->f.2.1=2->q=1:=by
 rcases Ak0 _ _ h with h|⟨q,U⟩
 ·exact absurd rfl h
 obtain⟨a,E,H⟩:=A2y U;have J:a<ss.length:=by rw[G3]at E;exact E
 have e:=Hg (F:=F) (lab:=lab) (w:=ss[a]) (A01 J);have m:Gm F lab a ss[a]=some (some (p,q)):=by
  rw[A01 E,H]at e;exact (A28 e).symm
 have C:(Fh F lab ss)[a]?=some (some (some (p,q))):=by rw[e,m]
 generalize ss[a]=w at m;by_cases L:(a:Int)=lab
 ·have P:Gm F lab a w=Sy w:=by unfold Gm;rw[if_pos L]
  rw[P]at m;unfold Sy at m;split at m
  ·cases m
  simp only[A1f,A2i]at m;obtain⟨rfl,_⟩:=m;exact⟨.inl ⟨rfl,oV,rfl⟩,a,q,C,fun i f t=>by simp only at t;omega⟩
 rcases Gn (F:=F) (w:=w) L with t|⟨i,f,I,T,t⟩
 ·rw[t]at m;cases m
 rw[t]at m;unfold I3 at m;by_cases u:f.2.1=2
 ·rw[if_pos u]at m;simp only[A1f,A2i]at m;obtain⟨rfl,rfl⟩:=m;exact⟨.inr ⟨i,f,rfl,I,.inl u⟩,a,_,C,fun _ _ _ _ _=>rfl⟩
 rw[if_neg u]at m;split at m
 ·split at m<;>cases m
 simp only[A1f,A2i]at m;obtain⟨rfl,_⟩:=m;refine⟨.inr ⟨i,f,rfl,I,.inr rfl⟩,a,q,C,fun j g Q K R=>?_⟩;simp only at Q;obtain rfl:i=j:=oV;rw[I]at K;cases K;exact absurd R u
theorem Aj4 :∀ {L:List Dm},(Cf F lab L).s p≠0->∃ y∈L,(cfT F lab y.1).s p≠0:=by
 intro L;induction L using Ig with
 |h0=>exact fun h=>absurd rfl h
 |h1 L y ih =>
  intro h;rw[Eb]at h;rcases G1 (a:=(Cf F lab L).s p) (b:=(cfT F lab y.1).s p*(y.2.1:Rat)) h with h1|h1
  ·obtain⟨z,hz,h2⟩:=ih h1;exact⟨z,A24 _ hz,h2⟩
  ·exact⟨y,mV,(C1 h1).1⟩
def Awc {T:zC}{i:Nat}{f:Al}(hF:Da T F lab)(t:Bw T ss)(j:-1<=lab)(m:∀ l:Nat,lab=(l:Int)->l<ss.length)(hp:p.1=(i:Int))(C:F[i]?=some f)(E:f.2.1=2):(cfT F lab ss).s p=0\/(cfT F lab ss).s p=1:=by
 by_cases h:(cfT F lab ss).s p=0
 ·exact .inl h
 right;obtain⟨_,a,q,u,H⟩:=Yf h;have e:=H i f hp C E;subst e;cases hc:G4 F lab ss with
 |true=>exact Tv hF t j m hc u
 |false=>rw[Ajl hF t j m hc]at h;exact absurd rfl h
theorem Asv :∀ {L:List Dm},(∀ y∈L,1<=y.2.1/\((cfT F lab y.1).s p=0\/(cfT F lab y.1).s p=1))->∃ k:Nat,(Cf F lab L).s p=(k:Rat)/\((∃ y∈L,(cfT F lab y.1).s p=1)->0<k):=by
 intro L;induction L using Ig with
 |h0=>exact fun _=>⟨0,rfl,fun⟨y,hy,_⟩=>by simp at hy⟩
 |h1 L y ih =>
  intro h;obtain⟨k,hk,hpos⟩:=ih fun z hz=>h z (A24 _ hz);obtain⟨hw,hy⟩:=h y mV;rw[Eb];show ∃ k:Nat,(Cf F lab L).s p+(cfT F lab y.1).s p*(y.2.1:Rat)=(k:Rat)/\_;rw[hk];rcases hy with e|e
  ·refine⟨k,by rw[e];grind,fun⟨z,hz,h1⟩=>hpos ?_⟩;rcases A1h.1 hz with hz|hz
   ·exact⟨z,hz,h1⟩
   ·simp only[A12]at hz;subst hz;rw[e]at h1;exact absurd h1 fV
  ·exact⟨k+y.2.1,by rw[e,Rat.natCast_add];grind,fun _=>oV⟩
def Aln {u:PH}{T:zC}{R:List Br}{F:List Al}{lab:Int}{L:List Dm}{y:Dm}{x:Par×Rat}{P:List Par}(ok:Bl u T R F lab)(C:∀ y∈L,Bw T y.1/\1<=y.2.1)(K:y∈L)(V:G4 F lab y.1=true)
 (U:∀ p,p∈P↔(∃ (i:Nat) (f:Al),p=Li i/\F[i]?=some f/\f.2.1=1)\/((Cf F lab L).s p≠0/\∃ (i:Nat) (f:Al),p.1=(i:Int)/\F[i]?=some f/\f.2.1=2)) (hx:x∈Dx F y.1 F.length):x.1∈P:=by
 have H:∀ z∈L,∀ l:Nat,lab=(l:Int)->l<z.1.length:=fun z J l X=>by
  obtain⟨n,Y⟩:=ok.l2 l X;have h1:=(A05.1 Y).1;have:=(C z J).1.len;omega
 obtain⟨i,f,hi,E,m⟩:=F9.1 hx;have j:=Qq (lab:=lab) ok.feat (C y K).1 E;obtain⟨n,kd,hT,h,Z⟩:=ok.feat.ok f (A1k E);unfold Jf at m;unfold I3 at j;by_cases t:f.2.1=2
 ·rw[if_pos t]at m j;cases m;refine (U _).2 (.inr ⟨?_,i,f,rfl,E,t⟩);have hs:=Tv ok.feat (C y K).1 ok.l1 (H y K) V j;obtain⟨k,W,I⟩:=Asv (F:=F) (lab:=lab) (p:=((i:Int),y.1.getD f.1 [])) (L:=L) fun z J=>⟨(C z J).2,Awc ok.feat (C z J).1 ok.l1 (H z J) rfl E t⟩;have h0:=I ⟨y,K,hs⟩;show (Cf F lab L).s ((i:Int),y.1.getD f.1 [])≠0;rw[W];intro e;have:k=0:=by exact_mod_cast e
  omega
 rw[if_neg t]at m;split at m
 ·cases m
 cases m;refine (U _).2 (.inl ⟨i,f,rfl,E,?_⟩);rcases h with ⟨Q,_⟩|⟨Q,_⟩
 ·exact Q
 exact absurd Q t
end
def Az0:Ag0 (CF.num 0):=⟨rfl,fun _=>rfl,fun _=>rfl⟩
def Afe:SmW 0:=⟨jV,jV⟩
def Acn {T:zC}{F:List Al}{lab:Int}{ss:zW}(hF:Da T F lab)(u:Bw T ss)(C:-1<=lab)(H:∀ l:Nat,lab=(l:Int)->l<ss.length)(I:G4 F lab ss=true){p:Par}(hp:0<=p.1):(cfT F lab ss).s p=Fo p (Dx F ss F.length):=by
 have E:=Nb F ss F.length (A08 _);by_cases h:(cfT F lab ss).s p=0
 ·rw[h];refine (Na fun j=>?_).symm;obtain⟨x,L,rfl⟩:=A1b.1 j;obtain⟨K,a,m⟩:=An5 (lab:=lab) hF u L;exact K ((Tv hF u C H I (p:=x.1) (q:=x.2) m).symm.trans h)
 obtain⟨_,a,q,m,_⟩:=Yf h;have J:=Tv hF u C H I m;rw[J]at h;rcases A1h.1 (As8 hF u C m h fun l _ e=>by
  rw[e];exact (Um (Aa7 (t:=[48]) ⟨0,Afe,Fz.symm⟩).2).2 rfl) with j|j
 ·unfold Ax2 at j;split at j
  ·simp only[A12,A2i]at j;obtain⟨rfl,_⟩:=j;simp only at hp;omega
  simp at j
 rw[J];exact (Kh (a:=p) (q:=q) E j).symm
def Bb (n:Nat)(f:Nat->Rat):Rat:=B9 f (List.range n)
def Ds (n:Nat)(f:Nat->Rat):Bb (n+1) f=Bb n f+f n:=by unfold Bb;rw[A5d,Ang]
def Uk (f:Nat->Rat):Bb 0 f=0:=rfl
def Ah {n:Nat}{f g:Nat->Rat}(h:∀ i,i<n->f i=g i):Bb n f=Bb n g:=Dt fun i hi=>h i (A6q.1 hi)
theorem Y8 (n:Nat)(f g:Nat->Rat):Bb n (fun i=>f i-g i)=Bb n f-Bb n g:=by
 induction n with
 |zero=>show (0:Rat)=0-0;decide +kernel
 |succ n ih=>rw[Ds,Ds,Ds,ih];grind
def B4 (k:Rat)(n:Nat)(f:Nat->Rat):Bb n (fun i=>k*f i)=k*Bb n f:=Ji k _
section
def Z2 {α β:Type}(f:α->β->Rat):∀ (l:List α) (k:List β),B9 (fun a=>B9 (fun b=>f a b) k) l=B9 (fun b=>B9 (fun a=>f a b) l) k
 |[],k=>(Fv fun _ _=>rfl).symm
 |a::l,k=>by
  show B9 (fun b=>f a b) k+B9 (fun a=>B9 (fun b=>f a b) k) l=B9 (fun b=>f a b+B9 (fun a=>f a b) l) k;rw[Z2 f l k,L7]
theorem Acs {α:Type}{f:α->Rat}:∀ {l:List α},(∀ a∈l,0<=f a)->0<=B9 f l
 |[],_=>Bcq
 |a::l,h=>by
  have j:=h a (A4l ..);have m:=Acs fun x e=>h x (A2f _ e);show 0<=f a+B9 f l;grind
theorem Ww {α:Type}{f:α->Rat}:∀ {l:List α},(∀ a∈l,0<=f a)->B9 f l=0->∀ a∈l,f a=0
 |[],_,_,a,j=>by cases j
 |x::l,h,e,a,j=>by
  have u:=h x (A4l ..);have E:=Acs fun y m=>h y (A2f _ m);have t:f x+B9 f l=0:=e;rcases A1g.1 j with rfl|j
  ·grind
  exact Ww (fun y m=>h y (A2f _ m)) (by grind) a j
def Ajc (C:CF)(e f:Option Par):As C e f=As C f e:=by
 cases e<;>cases f<;>simp only[As]<;>rw[Wi]
section
variable {P:List Par} {C:CF} {b d z:Option Par->Rat} {k:Rat}
def P7 (k:Rat)(b:Option Par->Rat):Option Par->Rat
 |none=>0
 |some p=>k*b (some p)
def Vn (P:List Par)(b:Option Par->Rat):Rat:=B9 (fun p=>b (some p)*b (some p)) P
def As4 (z b:Option Par->Rat)(P:List Par)(C:CF):Rat:=B9 (fun e=>z e*B9 (fun f=>As C e f*b f) (An P)) (An P)
theorem Zz (b:Option Par->Rat):Dh b P C=As4 b b P C:=by
 exact Dt fun e _=>by rw[<-Ji];exact Dt fun f _=>by grind
def S6 (f:Option Par->Rat):B9 f (An P)=f none+B9 (fun p=>f (some p)) P:=by
 unfold An;show f none+_=_;rw[So]
theorem Arq (P:List Par)(b:Option Par->Rat):0<=Vn P b:=Acs fun p _=>by
 rcases A9g (a:=0) (b:=b (some p)) with h|h
 ·exact A4o h h
 have:=A4o (a:=-b (some p)) (b:=-b (some p)) (by grind) (by grind);grind
theorem Ast (K:0<k)(Q:0<C.c)(hp:∀ z,0<=Dh z P C)(m:∀ e∈An P,B9 (fun f=>As C e f*z f) (An P)+P7 k z e=0):∀ e∈An P,z e=0:=by
 have E:As4 z z P C+k*Vn P z=0:=by
  have:As4 z z P C=B9 (fun e=>(-1)*(z e*P7 k z e)) (An P):=Dt fun e j=>by have:=m e j;grind
  rw[this,Ji,S6];have u:B9 (fun p=>z (some p)*P7 k z (some p)) P=k*Vn P z:=by unfold Vn;rw[<-Ji];exact Dt fun p _=>by unfold P7;grind
  rw[u];unfold P7;grind
 rw[<-Zz]at E;have F:=Arq P z;have L:=A4o (Bat K) F;have H:Vn P z=0:=by
  have:k*Vn P z=0:=by grind
  rcases A40.1 this with e|e
  ·grind
  exact e
 have I:∀ p∈P,z (some p)=0:=fun p hp=>by
  have:=Ww (fun q _=>by
   rcases A9g (a:=0) (b:=z (some q)) with h|h
   ·exact A4o h h
   have:=A4o (a:=-z (some q)) (b:=-z (some q)) (by grind) (by grind);grind) H p hp
  rcases A40.1 this with e|e<;>exact e
 have J:z none=0:=by
  have:=m none (by unfold An;simp);rw[S6,Fv fun p hp=>by rw[I p hp,Bau]]at this;have e:C.c*z none=0:=by
   have t:As C none none=C.c:=rfl;rw[t]at this;unfold P7 at this;grind
  rcases A40.1 e with e|e
  ·grind
  exact e
 intro e j;rcases A1g.1 j with rfl|j
 ·exact J
 grind
end
theorem Af3 {T:zC}{F:List Al}{lab:Int}(hF:Da T F lab)(h1:-1<=lab)(h2:∀ l:Nat,lab=(l:Int)->l<T.length)(z:Option Par->Rat)(P:List Par):∀ {L:List Dm},(∀ y∈L,Bw T y.1)->0<=Dh z P (Cf F lab L):=by
 intro L;induction L using Ig with
 |h0=>exact fun _=>by show 0<=Dh z P (CF.num 0);rw[Az0.norm z P];exact Bcq
 |h1 L y ih =>
  intro h;have i1:=ih fun z hz=>h z (A24 _ hz);have hy:=h y mV;have hlen:=hy.len;rw[Eb,Am0];rcases Pf hF hy h1 (fun l hl=>by have:=h2 l hl;omega) with ⟨_,o⟩|⟨_,o⟩
  ·rw[o.norm];generalize Anc z P (cfT F lab y.1).s=v;have hw:(0:Rat)<=(y.2.1:Rat):=by grind
   have hv:0<=v*v:=by
    rcases A9g (a:=0) (b:=v) with h|h
    ·exact A4o h h
    ·have:=A4o (a:=-v) (b:=-v) (by grind) (by grind);grind
   have:=A4o hv hw;grind
  ·rw[o.norm];grind
end
section
variable {F:List Al}{n:Nat}
section
variable {P:Program} [A6 P] {fn:Func} {Post:Ce} {st:List KI×S} {u m:PH}
def G.storeE {t:TypeId}(sz i:Nat)(m0:PH)(es:zV)(g n c j:Nat)(e K x:Value)(h:Aj P (adv P st)=.store (some 1) (.pointer (some ⟨g,0+j*sz+i,none⟩)) x)(ha:Af m0 m (zG g n c) t sz es)(hj:es[j]?=some e)(hi:i<sz)(U:K.cells.toList=e.cells.toList.set i x)(W:x.cells = #[x])(R:Ax x=true)
 (k:∀ m',Af m0 m' (zG g n c) t sz (es.set j K)->G P fn Post (nx (adv P st) undef) u m'):G P fn Post st u m:=by
 obtain⟨C,hh⟩:=ha;obtain⟨E,rfl⟩:=A05.1 hj;rcases hh with ⟨hn,_,_⟩|⟨g',cap,rest,h0,rfl,Z,hc,hl,Y⟩
 ·cases hn
 simp only[Value.slice.injEq,A1f,Addr.mk.injEq]at Z;obtain⟨⟨rfl,_⟩,rfl,rfl⟩:=Z;have Q:=(C _ (A09 E)).1;have T:=(C _ (A09 E)).2;have L:=Ba C;have a0:j*sz+sz<=es.length*sz:=by
  have:=A13 sz E;rw[Nat.succ_mul]at this;exact this
 have I:K.cells.size=sz:=by
  rw[<-A3o,U,A21,A3o];exact Q
 have J:A9 sz (es.set j K):=C.set ⟨I,fun y H=>by
  rw[U]at H;rcases A7c H with H|rfl
  ·exact T y H
  exact R⟩
 refine G.storeM 1 g (0+j*sz+i) t (A2 es++rest) x h (Ab _ _ _) (fun y H=>?_) (by rw[A1d,L];omega) (by rw[W];rfl) (by rw[W];simp[R]) ?_
 ·rcases A1h.1 H with H|H
  ·exact Fu C y H
  exact Y y H
 rw[Dp];have e1:(A2 es++rest).take (0+j*sz+i)++x.cells.toList++(A2 es++rest).drop (0+j*sz+i+1)=A2 (es.set j K)++rest:=by
  have h1:A2 (es.set j K)=(A2 es).set (j*sz+i) x:=by
   have q1:=Rp (e:=K) C I E;have q2:=Rp (e:=es[j]) C Q E;rw[A9w]at q2;rw[q1,U]
   conv=>rhs;rw[q2]
   have V:((A2 es).take (j*sz)).length=j*sz:=by rw[A1e,L];omega
   have X:es[j].cells.toList.length=sz:=by simpa using Q
   rw[A2k,A2k,A4t _ _ oV,V,Nat.add_sub_cancel_left,A8n _ _ oV]
  have h2:(A2 es++rest).set (j*sz+i) x=(A2 es).set (j*sz+i) x++rest:=A8n _ _ oV;rw[h1,<-h2,List.set_eq_take_append_cons_drop,if_pos (by rw[A1d];omega),W,A2w];simp
 rw[e1];refine k _ ⟨J,.inr ⟨g,c,rest,h0,rfl,by rw[A21],by rw[A21];exact hc,?_,Y⟩⟩;rw[A1d,Ba J,A21,<-L,<-A1d];exact hl
end
def Az6 {u:PH}{v:Value}{a:Nat}(h:Ac u v 3 (F.map Cm))(W:F.length<=1000000):zF 105 [v,zI a] u fun r _=>r=.bool (F.any fun f=>f.1==a):=by
 obtain⟨xa,xc,rfl⟩:=h.opn;rw[A03]at h⊢;refine Fn0.o func105<|G.l (ι:=Nat) (fun i=>[(1,iV a),(7,sV xa F.length xc),(8,iV F.length),(9,iV i)]) (fun _=>[])
  (fun i u' T=>i<=F.length/\(∀ j f,j<i->F[j]?=some f->f.1≠a)/\T=PH.mt) (fun i=>F.length-i) 0 ⟨oV,fun j f E=>oV,rfl⟩ ?_
 rintro J i Q u2 X l2 ⟨hi,h0,rfl⟩;by_cases C:i<F.length
 ·refine G.lT i F.length ?_;obtain⟨f,t⟩:∃ f,F[i]?=some f:=⟨_,A01 C⟩;obtain⟨U,V,rfl,L⟩:=Ac.at' (h.mono l2) (j:=i) (e:=Cm f) (by simp[t]);obtain⟨I,Y,Z⟩:=f;refine G.N F.length xc C L ?_;by_cases K:I=a
  ·refine G.eT I a ?_;exact G.r zT ⟨rfl,by
    rw[A5h.2 ⟨_,A1k t,by simpa using K⟩]⟩
  refine G.eF I a<|G.i i ?_;exact G.b (Q (i+1) _ _ _ cV l2 ⟨oV,fun j g E H=>by
   rcases (by omega:j<i\/j=i) with e|rfl
   ·exact h0 j g e H
   rw[t]at H;cases H;exact K,rfl⟩ oV)
 obtain rfl:i=F.length:=oV;refine G.lF F.length F.length ?_;exact G.r zL ⟨rfl,by
  rw[A6p.2 fun f R=>by
   obtain⟨j,E,rfl⟩:=A2y R;simpa using h0 j _ E (A01 E)]⟩
def nmB (j:Nat):zB:=[98]++[Zq j]
def Asb {j:Nat}(h:j<26):Hn (nmB j)=true:=by
 have e:∀ n:Fin 26,Hn (nmB n.val)=true:=jV
 exact e ⟨j,h⟩
theorem Au6 {l:zK}(h1:∀ a∈l,a<n)(h2:∀ (k:Nat) x y,l[k]?=some x->l[k+1]?=some y->x<y):l.length<=n:=by
 have h:∀ k (hk:k<l.length),k<=l[k]:=by
  intro k;induction k with
  |zero=>intro _;omega
  |succ k ih =>
   intro hk;have:=ih oV;have:=h2 k _ _ (A01 oV) (A01 hk);omega
 rcases A2a l.length with e|e
 ·omega
 ·have h3:=h (l.length-1) oV;have h4:=h1 _ (A09 (show l.length-1<l.length by omega));omega
def Aph {u Q:PH}{E:List Br}{r:Br}{J:zP}{K:Nat}(h:Py u n (E++[r]))(U:PH.le u Q)(V:n<=900)(T:Ac Q (.slice J (r.2.1++[n]).length K) 1 (Ai (r.2.1++[n]))):Py Q (n+1) (E++[(r.1,r.2.1++[n],(J,K))]):=by
 have I:r∈E++[r]:=mV;have h0:∀ x∈E,x∈E++[r]:=fun x j=>A24 _ j;have split:∀ x,x∈E++[(r.1,r.2.1++[n],(J,K))]->x∈E\/x=(r.1,r.2.1++[n],(J,K)):=fun x j=>by
  rcases A1h.1 j with j|j
  ·exact .inl j
  exact .inr (by simpa using j)
 refine⟨?_,?_,?_,?_,?_,?_,?_⟩
 ·have:=h.names;rw[A1i]at this⊢;exact this
 ·intro x j;rcases split x j with j|rfl
  ·exact h.ne x (h0 x j)
  simp
 ·intro x j a t;rcases split x j with j|rfl
  ·have:=h.lt x (h0 x j) a t;omega
  rcases A1h.1 t with t|t
  ·have:=h.lt r I a t;omega
  simp at t;omega
 ·intro x j;rcases split x j with j|rfl
  ·exact h.len x (h0 x j)
  have:=Au6 (h.lt r I) (h.asc r I);simp only[A1d,A20];omega
 ·intro x j k a b t C;rcases split x j with j|rfl
  ·exact h.asc x (h0 x j) k a b t C
  simp only at t C;rcases A2e (k+1) r.2.1.length with R|R
  ·rw[A1r oV]at t C;exact h.asc r I k a b t C
  rw[A18 R]at C;have L:k+1-r.2.1.length=0:=by
   obtain⟨q,_⟩:=A05.1 C;simp at q;omega
  rw[L]at C;simp at C;subst C;rw[A1r oV]at t;exact h.lt r I a (A1k t)
 ·intro a t;by_cases e:a=n
  ·subst e;exact⟨_,by simp;right;rfl,mV⟩
  obtain⟨x,j,H⟩:=h.all a oV;rcases A1h.1 j with j|j
  ·exact⟨x,A24 _ j,H⟩
  simp at j;subst j;exact⟨_,by simp;right;rfl,A24 _ H⟩
 intro x j;rcases split x j with j|rfl
 ·exact (h.at' x (h0 x j)).mono U
 exact T
def Aqc {u J:PH}{T:zC}{R H:List Br}{lab:Int}(ok:Bl u T R F lab)(hT:T.length<=11)(V:∀ a∈T,a.1≠nmB T.length)(L:Py J (T.length+1) H)(E:H.length=R.length):Bl J (T++[(nmB T.length,2)]) H F lab:=by
 have W:=Asb (j:=T.length) oV;refine⟨⟨⟨?_,?_⟩,?_⟩,?_,⟨?_,ok.feat.nodup⟩,?_,?_,?_,?_,ok.f2,ok.l1,?_⟩
 ·intro s t;rw[A1i]at t;rcases A1h.1 t with t|t
  ·exact ok.att.names.word s t
  simp at t;subst t;exact W
 ·rw[A1i,A4p];refine⟨ok.att.names.nodup,mV,fun a h b I e=>?_⟩;simp at I;obtain⟨x,X,rfl⟩:=A1b.1 h;exact V x X (e.trans I)
 ·intro a h;rcases A1h.1 h with h|h
  ·exact ok.att.kind a h
  simp at h;subst h;exact⟨mV,mV⟩
 ·rw[A1d];exact L
 ·intro f Q;obtain⟨n,k,C,K⟩:=ok.feat.ok f Q;exact⟨n,k,by rw[A1r (A05.1 C).1];exact C,K⟩
 ·rw[A1d];simp
 ·rw[A1d];simp;omega
 ·rw[E];exact ok.r1
 ·rw[E];exact ok.r2
 intro l U;obtain⟨n,C⟩:=ok.l2 l U;exact⟨n,by rw[A1r (A05.1 C).1];exact C⟩
end
def W8 (T:zC):A9 2 (T.map D9):=by
 intro e j;obtain⟨x,_,rfl⟩:=A1b.1 j;exact⟨rfl,fun y h=>by simp[D9,Value.cells]at h;rcases h with rfl|rfl<;>rfl⟩
def Ar6 (R:List Br):A9 2 (R.map Hs):=by
 intro e h;obtain⟨x,_,rfl⟩:=A1b.1 h;exact Sh x _ mV
def Aww {u:PH}{v:Value}{T:zC}{R:List Br}{F:List Al}{lab:Int}(hX:H5 u v T R F lab)(ok:Bl u T R F lab)(hT:T.length<=11)(hn:∀ a∈T,a.1≠nmB T.length) :
 zF 106 [v,zI 2] u fun r u'=>∃ R',H5 u' r (T++[(nmB T.length,2)]) R' F lab/\Bl u' (T++[(nmB T.length,2)]) R' F lab:=by
 obtain⟨xa,xc,xb,xd,xe,xf,rfl,a9,a7,a3⟩:=hX;have r1:=ok.r1;have r2:=ok.r2;obtain⟨h,r,rfl⟩:∃ h r,R=h++[r]:=⟨R.dropLast,R.getLast (fun e=>by rw[e]at r1;simp at r1),(List.dropLast_concat_getLast _).symm⟩;have ac:=ok.rel.at' r mV;have ah:=ok.rel.len r mV;refine Fn0.o func106<|G.appendL 96 2 24 (.agg #[zE,zO]) PH.mt [] (T.map D9) zN xa T.length xc kV rfl rfl oV (Af.nil _ _ _) a9 (W8 T) gV gV ?_;intro v1 m1 I;rw[A3q]at I;obtain⟨a1,c1,rfl⟩:=I.shape;rw[A03]at I⊢;refine G.c call182 (S0 (p:=[98]) (i:=T.length) oV mV) ?_;rintro v2 u2 l2 rfl;refine G.B 96 2 24 (.agg #[zE,zO]) [.agg #[zS ([98]++[Zq T.length]),zI 2]] (W8 [(nmB T.length,2)]) ?_;intro g3 u3 l3 e3;refine G.k 96 2 24 (.agg #[zE,zO]) PH.mt (T.map D9) [D9 (nmB T.length,2)] (.slice a1 T.length c1) g3 0 1 1 I e3 (W8 [(nmB T.length,2)]) ?_;intro v4 m4 J;rw[show T.map D9++[D9 (nmB T.length,2)]=(T++[(nmB T.length,2)]).map D9 by rw[A1i];rfl]at J;obtain⟨a4,c4,rfl⟩:=J.shape;rw[A03]at J⊢;refine G.appendL 98 2 40 (.agg #[zE,zN]) m4 [] ((h++[r]).map Hs) zN xb (h++[r]).length xd kV rfl rfl oV (Af.nil _ _ _) (a7.mono (l2.trans l3)) (Ar6 _) (by rw[A03];simp at r2⊢;omega) (by rw[A03];simp at r2⊢;omega) ?_;intro v5 m5 C;rw[A3q]at C;obtain⟨U,W,rfl⟩:=C.ptr mV;rw[A03]at C⊢;have ag:(h++[r]).length=h.length+1:=mV
 refine G.s ((h++[r]).length:Int) 1 (h.length:Int)<|G.a U 0 (h++[r]).length W h.length 2 oV ?_;have aa:ElP m5 U (0+h.length*2) (Hs r):=C.el mV;refine G.f 98 U (0+h.length*2) 1 1<|G.v none (aa.fld (j:=1) (xs:=#[zS r.1,.slice r.2.2.1 r.2.1.length r.2.2.2]) rfl rfl) ?_;have E:(Ai r.2.1).length=r.2.1.length:=by simp[Ai]
 refine G.appendL 3 1 8 zO m5 [] (Ai r.2.1) zN r.2.2.1 r.2.1.length r.2.2.2 kV rfl rfl oV (Af.nil _ _ _) (ac.mono (l2.trans l3)) (Av _) (by simp[E];omega) (by simp[E];omega) ?_;intro v6 m6 K;rw[A3q]at K;obtain⟨a6,c6,rfl⟩:=K.shape;rw[E]at K⊢;refine G.buildU 3 1 8 zO (Ai [T.length]) kV (Av [T.length]) rfl oV (by simp[Ai]) (by simp[Ai]) ?_;intro g7 u7 l7 e7;refine G.append 3 1 8 zO m5 (Ai r.2.1) (Ai [T.length]) (.slice a6 r.2.1.length c6) g7 0 1 1 kV rfl rfl oV K e7 (Av [T.length]) rfl oV (by simp[E];omega) (by simp[E];omega) ?_;intro v8 m8 L;rw[show Ai r.2.1++Ai [T.length]=Ai (r.2.1++[T.length]) by simp[Ai]]at L;obtain⟨Q,V,rfl⟩:=L.shape;have X:(Ai (r.2.1++[T.length])).length=(r.2.1++[T.length]).length:=by simp[Ai]
 rw[X]at L⊢;obtain⟨mx,a0,ad,Z⟩:=At.swap (x:=⟨zG U (h++[r]).length W,98,2,(h++[r]).map Hs⟩) (y:=⟨.slice Q (r.2.1++[T.length]).length V,3,1,Ai (r.2.1++[T.length])⟩) L C;refine G.f 98 U (0+h.length*2) 1 1<|G.storeE (t:=98) 2 1 mx ((h++[r]).map Hs) U (h++[r]).length W h.length (Hs r) (Hs (r.1,r.2.1++[T.length],(Q,V))) (.slice Q (r.2.1++[T.length]).length V) kV ad mV oV rfl rfl rfl ?_;intro m9 P;have e9:((h++[r]).map Hs).set h.length (Hs (r.1,r.2.1++[T.length],(Q,V)))=(h++[(r.1,r.2.1++[T.length],(Q,V))]).map Hs:=by
  rw[A1i,A1i,A4t _ _ mV,A03,A4i];rfl
 rw[e9]at P;have Y:PH.le mx m9:=fun g o hg=>P.see hg;obtain⟨my,ai,aj⟩:=Z ⟨zG U (h++[r]).length W,98,2,(h++[(r.1,r.2.1++[T.length],(Q,V))]).map Hs⟩ m9 P;have ab:PH.le m4 m9:=fun g o hg=>Y g o (a0.see hg);refine G.giveP (ma:=m9) (sm:=PH.mt) kV (Ari m9).symm (fun g=>.inr rfl) (fun g=>.inl rfl) ?_;intro af ae H;have a2:=((l2.trans l3).trans l7).trans ae;have a5:Py af (T.length+1) (h++[(r.1,r.2.1++[T.length],(Q,V))]):=Aph ok.rel a2 oV (Af.list a0 (Y.trans H));have m:(h++[(r.1,r.2.1++[T.length],(Q,V))]).length=(h++[r]).length:=mV
 exact G.r (.agg #[.slice a4 (T++[(nmB T.length,2)]).length c4,zG U (h++[r]).length W,.slice xe F.length xf,zI lab]) ⟨rfl,_,⟨_,_,_,_,_,_,by rw[m],Af.list J (ab.trans H),by rw[m];exact Af.list P H,a3.mono a2⟩,Aqc ok hT hn a5 m⟩
section
variable {R:List Br}{T:zC}{a:Nat}{lab:Int}{n:zB}{u:PH}
def An0 (T:zC):Prop:=∀ a∈T,(∃ j,a.1=nmA j)\/∃ j,j<T.length/\a.1=nmB j
def Aqs (h:An0 T)(hT:T.length<26):∀ a∈T,a.1≠nmB T.length:=by
 intro a F e;rcases h a F with ⟨j,m⟩|⟨j,m,t⟩
 ·rw[m]at e;unfold nmA nmB at e;simp at e
 rw[t]at e;unfold nmB at e;simp only[A4x,A3q,A3g,and_true,true_and]at e;have C:=Wv (i:=j) oV;have E:=Wv (i:=T.length) hT;rw[e,E]at C;omega
def An0.snoc (h:An0 T)(k:Nat):An0 (T++[(nmB T.length,k)]):=by
 intro a m;rcases A1h.1 m with m|m
 ·rcases h a m with t|⟨j,C,e⟩
  ·exact .inl t
  exact .inr ⟨j,gV,e⟩
 simp at m;subst m;exact .inr ⟨T.length,mV,rfl⟩
def TOK.nmOK (h:TOK T):An0 T:=by
 intro a m;have:a.1∈T.map (·.1):=A1b.2 ⟨a,m,rfl⟩;rw[h.nm]at this;obtain⟨j,_,e⟩:=A1b.1 this;exact .inl ⟨j,e.symm⟩
def Alx {F:List Al}(ok:Bl u T R F lab)(m:T[a]?=some (n,2))(hF:∀ f∈F,f.1≠a):Bl u T R F (a:Int):=by
 refine⟨ok.att,ok.rel,⟨fun f e=>?_,ok.feat.nodup⟩,ok.t1,ok.t2,ok.r1,ok.r2,ok.f2,oV,fun l t=>?_⟩
 ·obtain⟨n,k,h,j,_⟩:=ok.feat.ok f e;have:=hF f e;exact⟨n,k,h,j,oV⟩
 have:l=a:=oV;subst this;exact⟨n,m⟩
def Asp (ok:Bl u T R [] lab){a h:Nat}(j:T[a]?=some (n,2))(m:(a:Int)≠lab)(t:h<=1):Bl u T R [(a,1,h)] lab:=by
 refine⟨ok.att,ok.rel,⟨fun f e=>?_,mV⟩,ok.t1,ok.t2,ok.r1,ok.r2,mV,ok.l1,ok.l2⟩;simp at e;subst e;exact⟨n,2,j,.inl ⟨rfl,rfl,t⟩,m⟩
def Ace {s:Src}{ts:List Int}{k:Nat}(most:Nat)(ab:1<=most)(af:most<=6)(h:J0 u s ts)(hk:k<=s.n) :
 Ag prog 44 [s.ptr,zI most] u (s.M k) fun v I U=>∃ (T:zC) (R:List Br) (F:List Al) (lab:Int) (k':Nat),H5 I v T R F lab/\Bl I T R F lab/\T.length<=8/\0<=lab/\F≠[]/\k'<=s.n/\U=s.M k'/\F.length<=most:=by
 refine Ag.o func44<|G.A call104 (Ags most ab af h hk) ?_;rintro v1 u1 m1 l1 ⟨T,R,F,lab,k1,hX,ok,ak,a8,rfl,K,_,ac⟩ _;rw[By];have t:=K.nmOK;obtain⟨xa,xc,X,Y,Z,xf,rfl,Q,a1,H⟩:=id hX;have am:=ok.l1;have al:=ok.f2;refine G.joinF (ι:=Int) (fun st=>Ajn prog st [zL]) (fun z=>[(0,.v s.ptr),(4,.p 0 0),(5,.p 1003 0)])
  (fun z=>[(0,⟨30,[sN,sN,sN,iV 0]⟩),(1003,⟨30,[sV xa T.length xc,sV X R.length Y,sV Z F.length xf,iV z]⟩)])
  (fun z I U=>U=s.M k1/\Bl I T R F z) (fun _=>kV) kV ?tail ?way
 case way =>
  intro m;by_cases hl:lab<0
  ·refine G.lT' lab 0 hl<|G.l (ι:=Nat×Int) (fun i=>[(0,.v s.ptr),(4,.p 0 0),(5,.p 1003 0),(15,sV xa T.length xc),(16,iV T.length),(17,iV i.1)])
    (fun i=>[(0,⟨30,[sN,sN,sN,iV 0]⟩),(1003,⟨30,[sV xa T.length xc,sV X R.length Y,sV Z F.length xf,iV i.2]⟩)])
    (fun i I U=>i.1<=T.length/\U=s.M k1/\Bl I T R F i.2) (fun i=>T.length-i.1) (0,lab) ⟨oV,rfl,ok⟩ ?_
   rintro J ⟨i,z⟩ hJ u2 m2 l2 ⟨hi,rfl,ok2⟩;simp only at hi ok2 hJ;by_cases aa:i<T.length
   ·refine G.lT i T.length ?_;obtain⟨x,a6⟩:∃ x,T[i]?=some x:=⟨_,A01 aa⟩;obtain⟨ba,oa,rfl,ea⟩:=Ac.at' (Q.mono l2) (j:=i) (e:=D9 x) (by simp[a6]);obtain⟨xn,xk⟩:=x;refine G.N T.length xc aa ea ?_;by_cases h2:xk=2
    ·subst h2;refine G.eT (2:Nat) 2<|G.c call105 (Az6 (a:=i) (H.mono l2) oV) ?_;rintro v3 u3 L rfl;cases hu:F.any fun f=>f.1==i with
     |true =>
      exact G.i i<|G.b (hJ (i+1,z) _ _ _ cV (l2.trans L) ⟨dV,rfl,ok2.mono L⟩ dV)
     |false =>
      refine G.i i ?_;exact G.b (hJ (i+1,(i:Int)) _ _ _ cV (l2.trans L) ⟨dV,rfl,Alx (ok2.mono L) a6 fun f hf e=>by
       have:=A6p.1 hu f hf;simp[e]at this⟩ dV)
    exact G.eF xk 2<|G.i i<|G.b (hJ (i+1,z) _ _ _ cV l2 ⟨dV,rfl,ok2⟩ dV)
   obtain rfl:i=T.length:=oV;refine G.lF T.length T.length ?_;exact m z _ _ _ kV cV l2 ⟨rfl,ok2⟩
  refine G.lF lab 0 ?_;exact m lab _ _ _ kV cV (PH.le_refl _) ⟨rfl,ok⟩
 rintro z u2 m2 l2 ⟨rfl,ok2⟩;have a7:H5 u2 (.agg #[.slice xa T.length xc,.slice X R.length Y,.slice Z F.length xf,zI z]) T R F z:=⟨_,_,_,_,_,_,rfl,Q.mono l2,a1.mono l2,H.mono l2⟩;have ai:=H.mono l2;clear hX Q a1 ok K H;refine G.joinF (ι:=(zC×(zP×Nat))×(List Br×(zP×Nat))×(zP×Nat)×Int) (fun st=>Ajn prog st [zL]) (fun _=>[(0,.v s.ptr),(4,.p 0 0),(5,.p 1003 0)])
  (fun i=>[(0,⟨30,[sN,sN,sN,iV 0]⟩),(1003,⟨30,[sV i.1.2.1 i.1.1.length i.1.2.2,sV i.2.1.2.1 i.2.1.1.length i.2.1.2.2,sV i.2.2.1.1 F.length i.2.2.1.2,iV i.2.2.2]⟩)])
  (fun i I U=>U=s.M k1/\Bl I i.1.1 i.2.1.1 F i.2.2.2/\H5 I (.agg #[.slice i.1.2.1 i.1.1.length i.1.2.2,.slice i.2.1.2.1 i.2.1.1.length i.2.1.2.2,.slice i.2.2.1.1 F.length i.2.2.1.2,zI i.2.2.2]) i.1.1 i.2.1.1 F i.2.2.2/\An0 i.1.1/\i.1.1.length<=7/\0<=i.2.2.2) (fun _=>kV) kV ?tail2 ?way2
 case way2 =>
  intro m;by_cases hl:z<0
  ·refine G.lT' z 0 hl<|G.c call106 (Aww a7 ok2 oV (Aqs t oV)) ?_;rintro v3 u3 L ⟨W,E,C⟩;obtain⟨ya,yc,yb,yd,ye,yf,rfl,a4,a2,a0⟩:=id E;have a9:(T++[(nmB T.length,2)]).length=T.length+1:=mV;refine G.s ((T++[(nmB T.length,2)]).length:Int) 1 (T.length:Int) ?_;have V:Bl u3 (T++[(nmB T.length,2)]) W F (T.length:Int):=Alx C (n:=nmB T.length) mV fun f hf e=>by
    obtain⟨n,kd,h1,_⟩:=ok2.feat.ok f hf;have:=(A05.1 h1).1;omega
   exact m ((T++[(nmB T.length,2)],(ya,yc)),(W,(yb,yd)),(ye,yf),(T.length:Int)) _ _ _ kV cV L ⟨rfl,V,⟨_,_,_,_,_,_,rfl,a4,a2,a0⟩,t.snoc 2,dV,dV⟩
  refine G.lF z 0 ?_;exact m ((T,(xa,xc)),(R,(X,Y)),(Z,xf),z) _ _ _ kV cV (PH.le_refl _) ⟨rfl,ok2,a7,t,dV,dV⟩
 rintro⟨⟨T,⟨xa,xc⟩⟩,⟨R,⟨X,Y⟩⟩,⟨Z,xf⟩,z⟩ u3 m3 L ⟨rfl,C,E,t,hT7,hz⟩;simp only at C E t hT7 hz;by_cases P:F = []
 ·subst P;refine G.eT' ((([]:List Al).length:Nat):Int) 0 rfl<|G.c call106 (Aww E C oV (Aqs t oV)) ?_;rintro v4 u4 l4 ⟨W,ad,V⟩;obtain⟨ya,yc,yb,yd,ye,yf,rfl,a5,a3,aj⟩:=id ad;have a9:(T++[(nmB T.length,2)]).length=T.length+1:=mV;refine G.s ((T++[(nmB T.length,2)]).length:Int) 1 (T.length:Int)<|G.A call14 (I4 (n:=2) (h.mono (((l1.trans l2).trans L).trans l4)) a8 oV oV) ?_;rintro v5 u5 m5 l5 ⟨r,k5,rfl,hr,ae,rfl⟩ _;rw[By];refine G.B 100 3 24 (.agg #[zO,zO,zO]) [.agg #[zI T.length,zI 1,zI r]] (Kg (T.length,1,r)) ?_;intro g6 u6 l6 e6;have ag:((T.length:Nat):Int)≠z:=by
   intro e;obtain⟨n,hn⟩:=C.l2 T.length e.symm;have:=(A05.1 hn).1;omega
  have ah:Bl u6 (T++[(nmB T.length,2)]) W [(T.length,1,r)] z:=Asp (n:=nmB T.length) (V.mono (l5.trans l6)) mV ag oV;exact G.r (.agg #[.slice ya (T++[(nmB T.length,2)]).length yc,.slice yb W.length yd,zG g6 1 1,zI z]) ⟨_,W,[(T.length,1,r)],z,k5,⟨_,_,_,_,_,_,rfl,a5.mono (l5.trans l6),a3.mono (l5.trans l6),e6.listP⟩,ah,oV,hz,mV,ae,rfl,ab⟩
 refine G.eqlF (F.length:Int) 0 kV (by
  have:F.length≠0:=fun e=>P (A9i.1 e);omega) ?_
 exact G.r (.agg #[.slice xa T.length xc,.slice X R.length Y,.slice Z F.length xf,zI z]) ⟨T,R,F,z,k1,E,C,oV,hz,P,a8,rfl,ac⟩
end
def Awp {n:Nat}(h:n<=8):1374926400^n*7*100<10^100:=by
 have e:1374926400^n<=1374926400^8:=A10 oV h;have j:1374926400^8<10^80:=jV
 have m:(10:Nat)^80*100000<10^100:=jV
 omega
def Aee {u:PH}{T:zC}{R:List Br}{F:List Al}{lab:Int}(ok:Bl u T R F lab)(hT:T.length<=8){L:List Dm}(e:∀ y∈L,Bw T y.1/\y.2.1<=7)(h:L.length<=100):CFS (Cf F lab L)/\CFV (Cf F lab L):=by
 obtain⟨j,m⟩:=Alz ok e;refine⟨j.cfs oV ?_,m⟩;have hp:=Awp hT;have:=A13 (1374926400^T.length*7) h;omega
section
variable {L:List Dm}
def Avj {F:List Al}{lab:Int}:∀ p,(Cf F lab L).s p≠0->Adm F lab p:=fun p hp=>by
 obtain⟨y,h,e⟩:=Aj4 hp;exact (Yf e).1
def WOK.tup {u:PH}{T:zC}(h:WOK u T L):∀ y∈L,Bw T y.1/\y.2.1<=7:=fun y e=>by
 obtain⟨_,j,_,m⟩:=h y e;exact⟨j,m⟩
end
section
variable {F:List Al}{L:List Dm}{T:zC}{lab:Int}
def C9 (T:zC)(ss:zW):Prop:=∀ (i:Nat) (x:zB×Nat) (t:zB),T[i]?=some x->ss[i]?=some t->x.2=3->t = []\/Ae7 t=true
def W9.c9 (h:W9 T L):∀ y∈L,C9 T y.1:=fun y u i x t m j C=>by
 rcases h y u i x t m j with h|⟨_,h⟩|⟨e,_⟩|⟨e,_⟩
 ·exact .inl h
 ·exact .inr h
 ·omega
 omega
def Aw9 {ss:zW}{p:Par}{i:Nat}{f:Al}(hF:Da T F lab)(V:Bw T ss)(u:C9 T ss)(E:(cfT F lab ss).s p≠0)(hp:p.1=(i:Int))(I:F[i]?=some f)(U:f.2.1=2):p.2 = []\/Ae7 p.2=true:=by
 obtain⟨_,a,q,H,_⟩:=Yf E;have m:a<ss.length:=by
  have:=(A05.1 H).1;rwa[G3]at this
 have e:=Hg (F:=F) (lab:=lab) (w:=ss[a]) (A01 m);rw[H]at e;have h:Gm F lab a ss[a]=some (some (p,q)):=(A28 e).symm;obtain⟨x,P,W⟩:=V.at m;have u:=u a x ss[a] P (A01 m);generalize ss[a]=w at h W u;by_cases K:(a:Int)=lab
 ·have Q:Gm F lab a w=Sy w:=by unfold Gm;rw[if_pos K]
  rw[Q]at h;unfold Sy at h;split at h
  ·cases h
  simp only[A1f,A2i]at h;obtain⟨rfl,_⟩:=h;simp only at hp;omega
 rcases Gn (F:=F) (w:=w) K with t|⟨j,g,J,C,t⟩
 ·rw[t]at h;cases h
 rw[t]at h;have R:p.1=(j:Int):=by
  unfold I3 at h;split at h
  ·cases h;rfl
  split at h
  ·split at h<;>cases h
  cases h;rfl
 obtain rfl:j=i:=oV;rw[J]at I;cases I;unfold I3 at h;rw[if_pos U]at h;simp only[A1f,A2i]at h;obtain⟨rfl,_⟩:=h;obtain⟨n,k,t,X,_⟩:=hF.ok f (A1k J);rw[C,P]at t;cases t;exact u oV
theorem Af5 {α β:Type}{f:α->List β}{n:Nat}:∀ {l:List α},(∀ x∈l,(f x).length<=n)->(l.flatMap f).length<=l.length*n
 |[],_=>mV
 |x::l,h=>by
  rw[A6o,A1d,A3f,A16,A3i];have h1:=h x mV;have h2:=Af5 (l:=l) fun y hy=>h y (by simp[hy]);omega
def Atb {P:List Par}(hF:Da T F lab)(hT:∀ y∈L,Bw T y.1)(J:∀ y∈L,C9 T y.1)(E:Nn F (Cf F lab L) P):P.length<=F.length*4:=by
 have e:P ⊆ (List.range F.length).flatMap fun (i:Nat)=>[((i:Int),([]:zB)),((i:Int),Ai7),((i:Int),Qf),((i:Int),Xg)]:=fun p hp=>by
  rcases (E.2 p).1 hp with ⟨i,f,rfl,t,_⟩|⟨u,i,f,h,t,I⟩
  ·exact A57.2 ⟨i,by simpa using (A05.1 t).1,by unfold Li;simp⟩
  refine A57.2 ⟨i,by simpa using (A05.1 t).1,?_⟩;obtain⟨y,H,C⟩:=Aj4 u;obtain⟨K,Q⟩:=p;simp only at h;subst h;rcases Aw9 hF (hT y H) (J y H) C rfl t I with j|j
  ·simp only at j;subst j;simp
  rcases Avi j with m|m|m<;>· simp only at m;subst m;simp
 have h:=List.Nodup.length_le_of_subset (E.1.nodup Et) e;refine A04 h ?_;have:=Af5 (l:=List.range F.length) (n:=4) (f:=fun (i:Nat)=>[((i:Int),([]:zB)),((i:Int),Ai7),((i:Int),Qf),((i:Int),Xg)]) fun x _=>mV;rw[List.length_range]at this;exact this
end
section
variable {F:List Al}{R:List Br}{T:zC}{lab:Int}{u:PH}
def Aya {ss:zW}(ok:Bl u T R F lab)(j:Bw T ss)(m:-1<=lab)(t:∀ l:Nat,lab=(l:Int)->l<ss.length)(C:G4 F lab ss=true)(p:Par):Dn 1 18540 ((cfT F lab ss).s p):=by
 by_cases h:(cfT F lab ss).s p=0
 ·rw[h];exact Dn.zero _ _
 obtain⟨_,a,q,e,_⟩:=Yf h;rw[Tv ok.feat j m t C e];exact (show SmW q/\PV p from N0 ok j _ (A1k e)).1.dn
def Ayj {x:Par->Rat}(h:∀ p,Dn 1 18540 (x p)):∀ e,Dn 1 18540 (Zg x e)
 |none=>(show SmW 1 from⟨jV,jV⟩).dn
 |some p=>h p
structure In (N:Nat)(C:CF):Prop where
 c:∀ e f,Dn 2 N (As C e f)
 r:∀ e,Dn 2 N (Bh C e)
 l:Dn 2 N (C.t (Ay B7 B7))
theorem L0 (ok:Bl u T R F lab)(h1:-1<=lab)(h2:∀ l:Nat,lab=(l:Int)->l<T.length):∀ {L:List Dm},(∀ y∈L,Bw T y.1/\y.2.1<=7)->In (L.length*2406121200) (Cf F lab L):=by
 intro L;induction L using Ig with
 |h0=>exact fun _=>⟨fun e f=>by rw[show Cf F lab []=CF.num 0 from rfl,Az0.cell];exact Dn.zero _ _,fun e=>by cases e<;>exact Dn.zero _ _,Dn.zero _ _⟩
 |h1 L y ih =>
  intro h;have i1:=ih fun z hz=>h z (A24 _ hz);obtain⟨hy,hw⟩:=h y mV;have hlen:=hy.len;have hl:∀ l:Nat,lab=(l:Int)->l<y.1.length:=fun l e=>by have:=h2 l e;omega
  have one:In 343731600 (cfT F lab y.1):=by
   rcases Pf ok.feat hy h1 hl with ⟨hc,o⟩|⟨_,o⟩
   ·have hd:=Aya ok hy h1 hl hc;have he:=Ayj hd;exact⟨fun e f=>by rw[o.cell];exact (he e).mul (he f),fun e=>by rw[o.right];exact (hd B7).mul (he e),by rw[o.t];exact (hd B7).mul (hd B7)⟩
   ·have hn:cfT F lab y.1=cfT F lab y.1:=rfl;refine⟨fun e f=>by rw[o.cell];exact Dn.zero _ _,fun e=>?_,?_⟩
    ·cases e
     ·show Dn 2 343731600 ((cfT F lab y.1).s B7);rw[o.s];exact Dn.zero _ _
     ·show Dn 2 343731600 ((cfT F lab y.1).t _);rw[o.t];exact Dn.zero _ _
    ·rw[o.t];exact Dn.zero _ _
  have add:∀ {q r:Rat},Dn 2 (L.length*2406121200) q->Dn 2 343731600 r->Dn 2 ((L++[y]).length*2406121200) (q+r*(y.2.1:Rat)):=fun hq hr=>by
   refine (hq.add (hr.mul (Auv hw))).mono ?_;rw[A1d,A16];simp
  rw[Eb];exact⟨fun e f=>by rw[T1];exact add (i1.c e f) (one.c e f),fun e=>by rw[Bde];exact add (i1.r e) (one.r e),add i1.l one.l⟩
end
end Go.Proofs.YtemmheaocgmebaaGreatDoor
