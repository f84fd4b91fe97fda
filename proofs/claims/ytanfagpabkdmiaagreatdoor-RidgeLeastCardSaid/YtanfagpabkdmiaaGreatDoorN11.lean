/- Parts of one proof, joined by a program. -/
import Derived.Test.YtanfagpabkdmiaaGreatDoorN10
set_option linter.unusedVariables false
set_option linter.unusedSimpArgs false
set_option linter.unusedSectionVars false
set_option maxHeartbeats 16000000
namespace Go.Proofs.YtanfagpabkdmiaaGreatDoor
open Go.Proofs.Tryz
open Go.RowKit Go.MapKept
open _root_.Array renaming getD_eq_getD_getElem? -> A1f, getElem?_append_left -> A5q, getElem?_modify -> A70, range -> A6d, size_modify -> A8z
open Bool renaming and_eq_true -> A05
open Classical renaming byContradiction -> A44
open Int renaming natAbs_mul -> A30, toNat_natCast -> A22
open List renaming Perm.cons -> A42, Perm.swap -> A4s, Sublist.append_left -> A36, append_assoc -> A1j, append_nil -> A1i, filter_append -> Baz, filter_cons_of_neg -> A9i, filter_cons_of_pos -> A9h, getD_eq_getElem?_getD -> A0o, getElem?_append_left -> A1d, getElem?_append_right -> A1s, getElem?_eq_getElem -> A0n, getElem?_eq_some_iff -> A0s, getElem?_map -> A0v, getElem?_toArray -> A2x, getElem_mem -> A04, length_append -> A0z, length_cons -> A2n, length_filter_le -> A92, length_map -> A0p, length_pos_iff -> A4u, length_singleton -> A2o, length_take -> A00, map_append -> A07, map_cons -> A1y, mem_append -> A01, mem_append_left -> A24, mem_cons -> A02, mem_cons_of_mem -> A1w, mem_cons_self -> A3r, mem_filter -> A6v, mem_flatMap -> A7s, mem_map -> A0u, mem_of_getElem? -> A1b, mem_singleton -> A1t, nodup_append -> A3w, pairwise_append -> A3a, range -> A1q, range_succ -> A6y, rel_of_pairwise_cons -> A2h, set_cons_succ -> A2c, set_cons_zero -> A2k, sublist_cons_self -> A4d, take_add_one -> A1c, take_length -> A1k, take_of_length_le -> A03
open Nat renaming add_mul -> A1o, beq -> A17, div_le_self -> A3v, le_refl -> A0w, le_trans -> A0q, lt_of_lt_of_le -> A2e, lt_or_ge -> A11, mul_le_mul_right -> A12, mul_pos -> A5h, one_mul -> A3d, pow_le_pow_right -> A1l, zero_add -> A2b, zero_le -> A1m
open Option renaming getD_some -> A2y, map_some -> A3h, some.inj -> A2d
open Prod renaming mk.injEq -> A1r
open Rat renaming divInt -> A2m, intCast_mul -> A23, intCast_natCast -> A2j
open Value renaming cells -> A1e, slice -> A06
section
theorem Src.h0or (s:Src)(k k':Nat)(n0:PH)(g:Nat):s.M k g=none\/(n0.or (s.M k')) g≠none:=by
 rcases s.h0 k k' g with e|e
 ·exact .inl e
 ·right;intro h;cases hx:n0 g with
  |some o=>rw[PH.or_l hx]at h;cases h
  |none=>rw[PH.or_r hx]at h;exact e h
theorem Al2 {m:PH}{a b c d:Arr}(h:Bag m [a,b,c,d]):Bag m [a,c,d]:=by
 have h1:Bag m [a,c,d,b]:=Bag.perm (A42 a ((A4s c b [d]).trans (A42 c (A4s d b [])))) h;obtain⟨p0,q0,p1,q1,p2,q2,_⟩:=h1;exact⟨p0,q0,p1,q1,p2,q2,trivial⟩
theorem Aoo {x:Int}(h:x∈[1,2,2,(3:Int)]):∃ n:Nat,x=(n:Int)/\1<=n/\n<=3:=by
 simp at h;rcases h with rfl|rfl|rfl
 ·exact⟨1,rfl,oV,oV⟩
 ·exact⟨2,rfl,oV,oV⟩
 ·exact⟨3,rfl,oV,oV⟩
theorem Z1 {u:PH}{s:Src}{ts:List Int}{k:Nat}(most:Nat)(hm1:1<=most)(hm6:most<=6)(h:Aq7 u s ts)(hk:k<=s.n) :
 Ai prog 100 [s.ptr,.int .i64 (most:Int)] u (s.M k) fun v u' m'=>∃ (T:List (List UInt8×Nat)) (R:List Bk) (F:List Ao) (lab:Int) (k':Nat),F1 u' v T R F lab/\Bn u' T R F lab/\T.length<=6/\k'<=s.n/\m'=s.M k'/\TOK T/\T.length<=most/\F.length<=most:=by
 refine Ai.o func100 ?_;refine G.A call156 (Aet (lo:=1) (hi:=3) (n:=3) h hk oV oV oV oV oV) ?_;rintro v1 u1 m1 l1 ⟨r,k1,rfl,hr,hk1,rfl⟩ _;rw[C2];obtain⟨n,hn⟩:∃ n:Nat,(1:Int)+(r:Int)=(n:Int):=⟨1+r,oV⟩;rw[hn];refine G.l (ι:=Nat×Nat×List (List UInt8×Nat)×(Option Addr×Nat)×List Bk×(Option Addr×Nat)) (fun i=>[(0,.v s.ptr),(1,iV most),(4,.p 0 0),(5,.p 1001 0),(6,iV n),(7,iV i.1)])
  (fun i=>[(0,⟨31,[sV none 0 0,sV none 0 0,sV none 0 0,iV 0]⟩),(1001,⟨31,[sV i.2.2.2.1.1 i.2.2.1.length i.2.2.2.1.2,sV i.2.2.2.2.2.1 i.2.2.2.2.1.length i.2.2.2.2.2.2,sV none 0 0,iV (-1)]⟩)])
  (fun i u' m'=>i.1<=n/\i.2.1<=s.n/\TOM most i.2.2.1/\ROK u' i.2.2.1.length i.2.2.2.2.1/\i.2.2.2.2.1.length=i.1/\(0<i.1->0<i.2.2.1.length)/\Bag m' [s.arr i.2.1,Xo i.2.2.2.1.1 i.2.2.2.1.2 i.2.2.1,Uf i.2.2.2.2.2.1 i.2.2.2.2.2.2 i.2.2.2.2.1])
  (fun i=>n-i.1) (0,k1,[],(none,0),[],(none,0))
  ⟨A1m _,hk1,TOM.nil most,ROK.nil,rfl,fun h=>absurd h mV,s.bag0 k1 ⟨PH.mt,Ae.nil _ _ _,PH.mt,Ae.nil _ _ _,trivial⟩⟩ ?_
 rintro J ⟨i,k2,T,⟨ta,tc⟩,R,⟨ra,rc⟩⟩ hJ u2 m2 l2 ⟨hi,hk2,hT,hR,hRl,h0,hbag⟩;simp only at hi hk2 hT hR hRl h0 hbag hJ;subst hRl;have le2:=l1.trans l2;have hT6:=hT.le;by_cases hlt:R.length<n
 ·refine G.lT (R.length:Int) (n:Int) ?_;refine G.l (ι:=Nat×Nat×List Nat×(Option Addr×Nat)) (fun i=>[(0,.v s.ptr),(1,iV most),(4,.p 0 0),(5,.p 1001 0),(6,iV n),(7,iV R.length),(8,sV i.2.2.2.1 i.2.2.1.length i.2.2.2.2),(23,iV T.length),(24,iV i.1)])
   (fun i=>[(0,⟨31,[sV none 0 0,sV none 0 0,sV none 0 0,iV 0]⟩),(1001,⟨31,[sV ta T.length tc,sV ra R.length rc,sV none 0 0,iV (-1)]⟩)])
   (fun i u' m'=>i.1<=T.length/\i.2.1<=s.n/\LOK i.2.2.1 i.1/\Bag m' [s.arr i.2.1,Z9 i.2.2.2.1 i.2.2.2.2 i.2.2.1,Xo ta tc T,Uf ra rc R])
   (fun i=>T.length-i.1) (0,k2,[],(none,0))
   ⟨A1m _,hk2,LOK.nil,by obtain⟨m0,hs0,hL⟩:=hbag;exact⟨m0,hs0,m0,Ae.nil _ _ _,hL⟩⟩ ?_
  rintro J1 ⟨j,k3,l,⟨la,lc⟩⟩ hJ1 u3 m3 l3 ⟨hj,hk3,hl,hbag3⟩;simp only at hj hk3 hl hbag3 hJ1;have hll:=hl.len;by_cases hltj:j<T.length
  ·refine G.lT (j:Int) (T.length:Int) ?_;obtain⟨n4,hsrc4,hL4⟩:=hbag3;obtain⟨rfl,hg4⟩:=Src.split hsrc4;refine G.D call73 (Src.apart hg4) (Ia (n:=3) (h.mono (le2.trans l3)) hk3 oV oV) ?_;rintro v4 u4 m4 l4 ⟨r4,k4,rfl,hr4,hk4,rfl⟩ _;have hbag4:Bag _ [s.arr k4,Z9 la lc l,Xo ta tc T,Uf ra rc R]:=⟨_,Src.at hg4,hL4⟩;by_cases hr0:r4=0
   ·refine G.eT (r4:Int) 0 ?_;refine G.B 3 1 8 (.int .i64 0) [.int .i64 (j:Int)] (Ax [j]) ?_;intro g6 u6 l6 e6;obtain⟨mm6,hx6,hput6⟩:=hbag4.focus 1 rfl;rw[Xf]at hx6;refine G.append 3 1 8 (.int .i64 0) mm6 (Ag l) [.int .i64 (j:Int)] (.slice la l.length lc) g6 0 1 1 kV rfl rfl oV hx6 e6 (Ax [j]) rfl oV (by simp[Ag];omega) (by simp[Ag];omega) ?_;intro w6 mn6 hy6;rw[Cj]at hy6;obtain⟨a6,c6,rfl⟩:=hy6.shape;rw[Ah]at hy6⊢;have hbag6:=hput6 (Z9 a6 c6 (l++[j])) mn6 hy6;simp only[A2c,A2k]at hbag6;refine G.i j ?_;exact G.b (hJ1 (j+1,k4,l++[j],(a6,c6)) _ _ _ cV ((l3.trans l4).trans l6) ⟨dV,hk4,hl.snoc,hbag6⟩ dV)
   ·refine G.eF (r4:Int) 0 ?_;refine G.i j ?_;exact G.b (hJ1 (j+1,k4,l,(la,lc)) _ _ _ cV (l3.trans l4) ⟨dV,hk4,hl.up,hbag4⟩ dV)
  ·obtain rfl:j=T.length:=oV
   refine G.lF (T.length:Int) (T.length:Int) ?_;obtain⟨n4,hsrc4,hL4⟩:=hbag3;obtain⟨rfl,hg4⟩:=Src.split hsrc4;refine G.D call73 (Src.apart hg4) (Ia (n:=3) (h.mono (le2.trans l3)) hk3 oV oV) ?_;rintro v4 u4 m4 l4 ⟨r4,k4,rfl,hr4,hk4,rfl⟩ _;have hbag4:Bag _ [s.arr k4,Z9 la lc l,Xo ta tc T,Uf ra rc R]:=⟨_,Src.at hg4,hL4⟩;refine G.l (ι:=Int×Nat×List Nat×(Option Addr×Nat)×List (List UInt8×Nat)×(Option Addr×Nat)) (fun i=>[(0,.v s.ptr),(1,iV most),(4,.p 0 0),(5,.p 1001 0),(6,iV n),(7,iV R.length),(8,sV i.2.2.2.1.1 i.2.2.1.length i.2.2.2.1.2),(10,iV i.1)])
    (fun i=>[(0,⟨31,[sV none 0 0,sV none 0 0,sV none 0 0,iV 0]⟩),(1001,⟨31,[sV i.2.2.2.2.2.1 i.2.2.2.2.1.length i.2.2.2.2.2.2,sV ra R.length rc,sV none 0 0,iV (-1)]⟩)])
    (fun i u' m'=>i.2.1<=s.n/\(i.2.2.1 = []->0<=i.1)/\-1<=i.1/\i.1<=2/\T.length<=i.2.2.2.2.1.length/\TOM most i.2.2.2.2.1/\LOK i.2.2.1 i.2.2.2.2.1.length/\(∀ a,T.length<=a->a<i.2.2.2.2.1.length->a∈i.2.2.1)/\Bag m' [s.arr i.2.1,Z9 i.2.2.2.1.1 i.2.2.2.1.2 i.2.2.1,Xo i.2.2.2.2.2.1 i.2.2.2.2.2.2 i.2.2.2.2.1,Uf ra rc R])
    (fun i=>(i.1+1).toNat) ((r4:Int),k4,l,(la,lc),T,(ta,tc))
    ⟨hk4,fun _=>dV,dV,dV,A0w _,hT,hl,fun a h1 h2=>by dsimp only at h2;omega,hbag4⟩ ?_
   rintro J2 ⟨z,k5,l5,⟨la5,lc5⟩,T5,⟨ta5,tc5⟩⟩ hJ2 u5 m5 l5' ⟨hk5,hz0,hz1,hz2,hTle5,hT5,hl5,hall5,hbag5⟩;simp only at hk5 hz0 hz1 hz2 hTle5 hT5 hl5 hall5 hbag5 hJ2;have hT56:=hT5.le;have hl56:=hl5.len;have le5:=((le2.trans l3).trans l4).trans l5';have lo5:=(l3.trans l4).trans l5';refine dite (0<z) (fun hz=>?zp) (fun hz=>?zn)
   case' zp =>
    refine G.gT z 0 ?_;refine dite (T5.length<most) (fun hlen=>?g1) (fun hlen=>?l1)
   case' g1=>refine G.lT (T5.length:Int) (most:Int) ?_
   case' l1 =>
    refine G.lF (T5.length:Int) (most:Int) ?_;refine dite (l5 = []) (fun hemp=>?e1) (fun hemp=>?n1)
   case' n1=>have hpos:0<T5.length:=oV
   case' zn =>
    refine G.gF z 0 ?_;refine dite (l5 = []) (fun hemp=>?y2) (fun hemp=>?n2)
   case' y2 =>
    have hz':=hz0 hemp;have hle0:l5.length=0:=by rw[hemp];rfl
    refine G.eT (l5.length:Int) 0 ?_;refine dite (T5.length<most) (fun hlen=>?g2) (fun hlen=>?e2)
   case' g2=>refine G.lT (T5.length:Int) (most:Int) ?_
   case' e2=>refine G.lF (T5.length:Int) (most:Int) ?_
   case' n2 =>
    have hle0:0<l5.length:=A4u.2 hemp;refine G.eF (l5.length:Int) 0 ?_;have hpos:0<T5.length:=by
     obtain⟨x,hx⟩:=List.exists_mem_of_ne_nil _ hemp;have:=hl5.lt x hx;omega
   case g1|g2 =>
    refine G.B 3 1 8 (.int .i64 0) [.int .i64 (T5.length:Int)] (Ax [T5.length]) ?_;intro g21 u21 l21 e21;obtain⟨mm21,hx21,hput21⟩:=hbag5.focus 1 rfl;rw[Xf]at hx21;refine G.append 3 1 8 (.int .i64 0) mm21 (Ag l5) [.int .i64 (T5.length:Int)] (.slice la5 l5.length lc5) g21 0 1 1 kV rfl rfl oV hx21 e21 (Ax [T5.length]) rfl oV (by simp[Ag];omega) (by simp[Ag];omega) ?_;intro w21 mn21 hy21;rw[Cj]at hy21;obtain⟨a21,c21,rfl⟩:=hy21.shape;rw[Ah]at hy21⊢;have hbag21:=hput21 (Z9 a21 c21 (l5++[T5.length])) mn21 hy21;simp only[A2c,A2k]at hbag21;refine G.both [0,1,2,3,4,6] 5 7 [8,9,10,11,12,13] kV ?_ ?_;refine G.c call179 (N9 (p:=[97]) (i:=T5.length) oV mV) ?_;rintro v22 u22 l22 rfl;refine G.B 3 1 8 (.int .i64 0) [.int .i64 1,.int .i64 2,.int .i64 2,.int .i64 3] (K9 [1,2,2,3]) ?_;intro g23 u23 l23 e23;have le23:=(((le5).trans l21).trans l22).trans l23;have lq23:=l22.trans l23;have e23p:=e23.listP
    rotate_left
    refine G.B 3 1 8 (.int .i64 0) [.int .i64 1,.int .i64 2,.int .i64 2,.int .i64 3] (K9 [1,2,2,3]) ?_;intro g23 u23 l23 e23;refine G.c call179 (N9 (p:=[97]) (i:=T5.length) oV mV) ?_;rintro v22 u22 l22 rfl;have le23:=(((le5).trans l21).trans l23).trans l22;have lq23:=l23.trans l22;have e23p:=e23.listP.mono l22;all_goals
     obtain⟨n24,hsrc24,hL24⟩:=hbag21;obtain⟨rfl,hg24⟩:=Src.split hsrc24;refine G.D call104 (Src.apart hg24) (Za (L:=[1,2,2,3]) (h.mono le23) hk5 e23p mV mV) ?_;rintro v24 u24 m24 l24 ⟨kd,hkd,k24,rfl,hk24,rfl⟩ _;obtain⟨kn,rfl,hkn1,hkn3⟩:=Aoo hkd;have hbag24:Bag (n24.or (s.M k24)) [s.arr k24,Z9 a21 c21 (l5++[T5.length]),Xo ta5 tc5 T5,Uf ra rc R]:=⟨n24,Src.at hg24,hL24⟩;refine G.B 92 2 24 (.agg #[.string (mkS []),.int .i64 0]) [.agg #[.string (mkS (nmA T5.length)),.int .i64 (kn:Int)]] (Adt (nmA T5.length,kn)) ?_;intro g25 u25 l25 e25;obtain⟨mm25,hx25,hput25⟩:=hbag24.focus 2 rfl;rw[Amn]at hx25;refine G.append 92 2 24 (.agg #[.string (mkS []),.int .i64 0]) mm25 (T5.map D0) [.agg #[.string (mkS (nmA T5.length)),.int .i64 (kn:Int)]] (.slice ta5 T5.length tc5) g25 0 1 1 kV rfl rfl oV hx25 e25 (Adt (nmA T5.length,kn)) rfl oV (by simp[Ag];omega) (by simp[Ag];omega) ?_;intro w25 mn25 hy25;rw[show T5.map D0++[.agg #[.string (mkS (nmA T5.length)),.int .i64 (kn:Int)]]=(T5++[(nmA T5.length,kn)]).map D0 by rw[A07];rfl]at hy25;obtain⟨a25,c25,rfl⟩:=hy25.shape;rw[A0p]at hy25⊢;have hbag25:=hput25 (Xo a25 c25 (T5++[(nmA T5.length,kn)])) mn25 hy25;simp only[A2c,A2k]at hbag25;refine G.s z 1 (z-1) ?_;exact G.b (hJ2 (z-1,k24,l5++[T5.length],(a21,c21),T5++[(nmA T5.length,kn)],(a25,c25)) _ _ _ cV ((((l5'.trans l21).trans lq23).trans l24).trans l25) ⟨hk24,fun e=>by simp at e,dV,dV,by dsimp only;rw[A0z];omega,hT5.snocm hkn1 hkn3 oV hm6,by dsimp only;rw[A0z];exact hl5.snoc,fun a h1 h2=>by
      dsimp only at h2⊢;rw[A0z,A2o]at h2;rcases A11 a T5.length with e|e
      ·exact A24 _ (hall5 a h1 e)
      ·exact List.mem_append_right _ (A1t.2 oV),hbag25⟩ dV)
   case e1|e2 =>
    subst hemp;refine G.eT' (([]:List Nat).length:Int) 0 mV ?_;refine G.B 3 1 8 (.int .i64 0) [.int .i64 ((0:Nat):Int)] (Ax [0]) ?_;intro g26 u26 l26 e26;have hl26:Ab u26 (.slice (some ⟨g26,0,none⟩) 1 1) 1 (Ag [0]):=e26.listP;have hbag26:=Al2 hbag5;refine G.c call179 (N9 (p:=[114]) (i:=R.length) oV mV) ?_;rintro v27 u27 l27 rfl;refine G.B 94 2 40 (.agg #[.string (mkS []),.slice none 0 0]) [.agg #[.string (mkS (nmR R.length)),.slice (some ⟨g26,0,none⟩) 1 1]] (Nk (nmR R.length,[0],((some (⟨g26,0,none⟩:Addr)),1))) ?_;intro g28 u28 l28 e28;obtain⟨mm28,hx28,hput28⟩:=hbag26.focus 2 rfl;rw[Aee]at hx28;refine G.append 94 2 40 (.agg #[.string (mkS []),.slice none 0 0]) mm28 (R.map Gb) [.agg #[.string (mkS (nmR R.length)),.slice (some ⟨g26,0,none⟩) 1 1]] (.slice ra R.length rc) g28 0 1 1 kV rfl rfl oV hx28 e28 (Nk (nmR R.length,[0],((some (⟨g26,0,none⟩:Addr)),1))) rfl oV (by simp[Ag];omega) (by simp[Ag];omega) ?_;intro w28 mn28 hy28;rw[show R.map Gb++[.agg #[.string (mkS (nmR R.length)),.slice (some ⟨g26,0,none⟩) 1 1]]=(R++[(nmR R.length,[0],((some (⟨g26,0,none⟩:Addr)),1))]).map Gb by rw[A07];rfl]at hy28;obtain⟨a28,c28,rfl⟩:=hy28.shape;rw[A0p]at hy28⊢;have hbag28:=hput28 (Uf a28 c28 (R++[(nmR R.length,[0],((some (⟨g26,0,none⟩:Addr)),1))])) mn28 hy28;simp only[A2c,A2k]at hbag28;refine G.p (R.length:Int) 1 ((R.length+1:Nat):Int) ?_;have hR28:ROK u28 T5.length (R++[(nmR R.length,[0],((some (⟨g26,0,none⟩:Addr)),1))]):=by
     refine (hR.mono (lo5 |>.trans l26 |>.trans l27 |>.trans l28)).snoc hTle5 (LOK.zero oV) mV (fun a h1 h2=>?_) (hl26.mono (l27.trans l28));exact absurd (hall5 a h1 h2) mV
    exact G.b (hJ (R.length+1,k5,T5,(ta5,tc5),R++[(nmR R.length,[0],((some (⟨g26,0,none⟩:Addr)),1))],(a28,c28)) _ _ _ cV (l2.trans (lo5 |>.trans l26 |>.trans l27 |>.trans l28)) ⟨dV,hk5,hT5,hR28,mV,fun _=>dV,hbag28⟩ dV)
   case n1|n2 =>
    have hl0:0<l5.length:=A4u.2 hemp;refine G.eF (l5.length:Int) 0 ?_;obtain⟨mL,hxl,hrest⟩:=hbag5.take 1 rfl;have hbag26:Bag mL [s.arr k5,Xo ta5 tc5 T5,Uf ra rc R]:=hrest;rw[Xf]at hxl;refine G.give mL (Ag l5) (.slice la5 l5.length lc5) kV hxl (fun g=>?_) ?_
    ·obtain⟨n26,hs26,_⟩:=hbag26;obtain⟨rfl,_⟩:=Src.split hs26;exact s.h0or k k5 n26 g
    intro u26 l26 hl26;refine G.c call179 (N9 (p:=[114]) (i:=R.length) oV mV) ?_;rintro v27 u27 l27 rfl;refine G.B 94 2 40 (.agg #[.string (mkS []),.slice none 0 0]) [.agg #[.string (mkS (nmR R.length)),.slice la5 l5.length lc5]] (Nk (nmR R.length,l5,(la5,lc5))) ?_;intro g28 u28 l28 e28;obtain⟨mm28,hx28,hput28⟩:=hbag26.focus 2 rfl;rw[Aee]at hx28;refine G.append 94 2 40 (.agg #[.string (mkS []),.slice none 0 0]) mm28 (R.map Gb) [.agg #[.string (mkS (nmR R.length)),.slice la5 l5.length lc5]] (.slice ra R.length rc) g28 0 1 1 kV rfl rfl oV hx28 e28 (Nk (nmR R.length,l5,(la5,lc5))) rfl oV (by simp[Ag];omega) (by simp[Ag];omega) ?_;intro w28 mn28 hy28;rw[show R.map Gb++[.agg #[.string (mkS (nmR R.length)),.slice la5 l5.length lc5]]=(R++[(nmR R.length,l5,(la5,lc5))]).map Gb by rw[A07];rfl]at hy28;obtain⟨a28,c28,rfl⟩:=hy28.shape;rw[A0p]at hy28⊢;have hbag28:=hput28 (Uf a28 c28 (R++[(nmR R.length,l5,(la5,lc5))])) mn28 hy28;simp only[A2c,A2k]at hbag28;refine G.p (R.length:Int) 1 ((R.length+1:Nat):Int) ?_;have hR28:ROK u28 T5.length (R++[(nmR R.length,l5,(la5,lc5))]):=by
     exact (hR.mono (lo5 |>.trans l26 |>.trans l27 |>.trans l28)).snoc hTle5 hl5 hemp hall5 (hl26.mono (l27.trans l28))
    exact G.b (hJ (R.length+1,k5,T5,(ta5,tc5),R++[(nmR R.length,l5,(la5,lc5))],(a28,c28)) _ _ _ cV (l2.trans (lo5 |>.trans l26 |>.trans l27 |>.trans l28)) ⟨dV,hk5,hT5,hR28,mV,fun _=>dV,hbag28⟩ dV)
 obtain rfl:R.length=n:=oV
 refine G.lF (R.length:Int) (R.length:Int) ?_;have hTpos:=h0 oV;obtain⟨n0,hsrc,hL⟩:=hbag;obtain⟨rfl,hg0⟩:=Src.split hsrc;refine G.giveP (ma:=n0) (sm:=s.M k2) kV rfl (Src.apart hg0) (s.h0 k k2) ?_;intro u3 l3 hm3;have hAL:Ab u3 (.slice ta T.length tc) 2 (T.map D0):=hL.list hm3 0 rfl;have hRL:Ab u3 (.slice ra R.length rc) 2 (R.map Gb):=hL.list hm3 1 rfl;refine G.l (ι:=Nat×Nat×List Ao×(Option Addr×Nat)×Int) (fun i=>[(0,.v s.ptr),(4,.p 0 0),(5,.p 1001 0),(86,sV ta T.length tc),(87,iV T.length),(88,iV i.1)])
  (fun i=>[(0,⟨31,[sV none 0 0,sV none 0 0,sV none 0 0,iV 0]⟩),(1001,⟨31,[sV ta T.length tc,sV ra R.length rc,sV i.2.2.2.1.1 i.2.2.1.length i.2.2.2.1.2,iV i.2.2.2.2]⟩)])
  (fun i u' m'=>i.1<=T.length/\i.2.1<=s.n/\FOK T i.2.2.1 i.2.2.2.2 i.1/\Bag m' [s.arr i.2.1,Sr i.2.2.2.1.1 i.2.2.2.1.2 i.2.2.1])
  (fun i=>T.length-i.1) (0,k2,[],(none,0),-1)
  ⟨A1m _,hk2,FOK.nil,s.bag0 k2 ⟨PH.mt,Ae.nil _ _ _,trivial⟩⟩ ?_
 rintro J1 ⟨a,k3,F,⟨fa,fc⟩,lab⟩ hJ1 u4 m4 l4 ⟨ha,hk3,hF,hbag4⟩;simp only at ha hk3 hF hbag4 hJ1;have le4:=(le2.trans l3).trans l4;have hFl:=hF.len;by_cases hlt2:a<T.length
 ·refine G.lT (a:Int) (T.length:Int) ?_;have hTa:T[a]?=some T[a]:=A0n hlt2;have hkd:=hT.kd _ (A04 hlt2);obtain⟨ba,oa,rfl,ea⟩:=Ab.at' (hAL.mono l4) (j:=a) (e:=D0 T[a]) (by simp[hTa]);generalize T[a]=x at hTa hkd ea;obtain⟨nm,kd⟩:=x;simp only at hkd;refine G.a ba oa T.length tc a 2 hlt2 ?_;refine G.lU (some 2) ba (oa+a*2) (.agg #[.string (mkS nm),.int .i64 (kd:Int)]) ea ?_;by_cases hk2':kd=2
  ·subst hk2';refine G.eT ((2:Nat):Int) 2 ?_;by_cases hlab:lab<0
   ·refine G.lT lab 0 ?_;obtain⟨n5,hsrc5,hL5⟩:=hbag4;obtain⟨rfl,hg5⟩:=Src.split hsrc5;refine G.D call73 (Src.apart hg5) (Ia (n:=2) (h.mono le4) hk3 oV oV) ?_;rintro v5 u5 m5 l5 ⟨r5,k5,rfl,hr5,hk5,rfl⟩ _;have hbag5:Bag _ [s.arr k5,Sr fa fc F]:=⟨_,Src.at hg5,hL5⟩;by_cases hr0:r5=0
    ·refine G.eT (r5:Int) 0 ?_;refine G.i a ?_;exact G.b (hJ1 (a+1,k5,F,(fa,fc),(a:Int)) _ _ _ cV (l4.trans l5) ⟨dV,hk5,hF.lab hTa,hbag5⟩ dV)
    ·refine G.eF (r5:Int) 0 ?_;refine G.eT ((2:Nat):Int) 2 ?_;have hg11:=hg5;have hL11:=hL5;refine G.D call73 (Src.apart hg11) (Ia (n:=4) (h.mono (le4.trans l5)) hk5 oV oV) ?_;rintro v11 u11 m11 l11 ⟨r11,k11,rfl,hr11,hk11,rfl⟩ _;have hbag11:Bag _ [s.arr k11,Sr fa fc F]:=⟨_,Src.at hg11,hL11⟩;by_cases hr1:0<r11
     ·refine G.gT (r11:Int) 0 ?_;have hg12:=hg11;have hL12:=hL11;refine G.D call73 (Src.apart hg12) (Ia (n:=2) (h.mono ((le4.trans l5).trans l11)) hk11 oV oV) ?_;rintro v12 u12 m12 l12 ⟨r12,k12,rfl,hr12,hk12,rfl⟩ _;have hbag12:Bag _ [s.arr k12,Sr fa fc F]:=⟨_,Src.at hg12,hL12⟩;refine G.B 144 3 24 (.agg #[.int .i64 0,.int .i64 0,.int .i64 0]) [.agg #[.int .i64 (a:Int),.int .i64 ((1:Nat):Int),.int .i64 (r12:Int)]] (Hu (a,1,r12)) ?_;intro g13 u13 l13 e13;obtain⟨mm13,hx13,hput13⟩:=hbag12.focus 1 rfl;rw[Xa]at hx13;refine G.append 144 3 24 (.agg #[.int .i64 0,.int .i64 0,.int .i64 0]) mm13 (F.map B6) [.agg #[.int .i64 (a:Int),.int .i64 ((1:Nat):Int),.int .i64 (r12:Int)]] (.slice fa F.length fc) g13 0 1 1 kV rfl rfl oV hx13 e13 (Hu (a,1,r12)) rfl oV (by simp[Ag];omega) (by simp[Ag];omega) ?_;intro w13 mn13 hy13;rw[show F.map B6++[.agg #[.int .i64 (a:Int),.int .i64 ((1:Nat):Int),.int .i64 (r12:Int)]]=(F++[(a,1,r12)]).map B6 by rw[A07];rfl]at hy13;obtain⟨a13,c13,rfl⟩:=hy13.shape;rw[A0p]at hy13⊢;have hbag13:=hput13 (Sr a13 c13 (F++[(a,1,r12)])) mn13 hy13;simp only[A2c,A2k]at hbag13;refine G.i a ?_;exact G.b (hJ1 (a+1,k12,F++[(a,1,r12)],(a13,c13),lab) _ _ _ cV ((((l4.trans l5).trans l11).trans l12).trans l13) ⟨dV,hk12,hF.put hTa (.inl ⟨rfl,rfl,oV⟩),hbag13⟩ dV)
     ·refine G.gF (r11:Int) 0 ?_;refine G.eF ((2:Nat):Int) 3 ?_;refine G.i a ?_;exact G.b (hJ1 (a+1,k11,F,(fa,fc),lab) _ _ _ cV ((l4.trans l5).trans l11) ⟨dV,hk11,hF.skip,hbag11⟩ dV)
   ·refine G.lF lab 0 ?_;refine G.eT ((2:Nat):Int) 2 ?_;obtain⟨n11,hsrc11,hL11⟩:=hbag4;obtain⟨rfl,hg11⟩:=Src.split hsrc11;refine G.D call73 (Src.apart hg11) (Ia (n:=4) (h.mono le4) hk3 oV oV) ?_;rintro v11 u11 m11 l11 ⟨r11,k11,rfl,hr11,hk11,rfl⟩ _;have hbag11:Bag _ [s.arr k11,Sr fa fc F]:=⟨_,Src.at hg11,hL11⟩;by_cases hr1:0<r11
    ·refine G.gT (r11:Int) 0 ?_;have hg12:=hg11;have hL12:=hL11;refine G.D call73 (Src.apart hg12) (Ia (n:=2) (h.mono (le4.trans l11)) hk11 oV oV) ?_;rintro v12 u12 m12 l12 ⟨r12,k12,rfl,hr12,hk12,rfl⟩ _;have hbag12:Bag _ [s.arr k12,Sr fa fc F]:=⟨_,Src.at hg12,hL12⟩;refine G.B 144 3 24 (.agg #[.int .i64 0,.int .i64 0,.int .i64 0]) [.agg #[.int .i64 (a:Int),.int .i64 ((1:Nat):Int),.int .i64 (r12:Int)]] (Hu (a,1,r12)) ?_;intro g13 u13 l13 e13;obtain⟨mm13,hx13,hput13⟩:=hbag12.focus 1 rfl;rw[Xa]at hx13;refine G.append 144 3 24 (.agg #[.int .i64 0,.int .i64 0,.int .i64 0]) mm13 (F.map B6) [.agg #[.int .i64 (a:Int),.int .i64 ((1:Nat):Int),.int .i64 (r12:Int)]] (.slice fa F.length fc) g13 0 1 1 kV rfl rfl oV hx13 e13 (Hu (a,1,r12)) rfl oV (by simp[Ag];omega) (by simp[Ag];omega) ?_;intro w13 mn13 hy13;rw[show F.map B6++[.agg #[.int .i64 (a:Int),.int .i64 ((1:Nat):Int),.int .i64 (r12:Int)]]=(F++[(a,1,r12)]).map B6 by rw[A07];rfl]at hy13;obtain⟨a13,c13,rfl⟩:=hy13.shape;rw[A0p]at hy13⊢;have hbag13:=hput13 (Sr a13 c13 (F++[(a,1,r12)])) mn13 hy13;simp only[A2c,A2k]at hbag13;refine G.i a ?_;exact G.b (hJ1 (a+1,k12,F++[(a,1,r12)],(a13,c13),lab) _ _ _ cV (((l4.trans l11).trans l12).trans l13) ⟨dV,hk12,hF.put hTa (.inl ⟨rfl,rfl,oV⟩),hbag13⟩ dV)
    ·refine G.gF (r11:Int) 0 ?_;refine G.eF ((2:Nat):Int) 3 ?_;refine G.i a ?_;exact G.b (hJ1 (a+1,k11,F,(fa,fc),lab) _ _ _ cV (l4.trans l11) ⟨dV,hk11,hF.skip,hbag11⟩ dV)
  ·refine G.eF (kd:Int) 2 ?_;refine G.eF (kd:Int) 2 ?_;by_cases hk3':kd=3
   ·subst hk3';refine G.eT ((3:Nat):Int) 3 ?_;obtain⟨n5,hsrc5,hL5⟩:=hbag4;obtain⟨rfl,hg5⟩:=Src.split hsrc5;refine G.D call73 (Src.apart hg5) (Ia (n:=4) (h.mono le4) hk3 oV oV) ?_;rintro v5 u5 m5 l5 ⟨r5,k5,rfl,hr5,hk5,rfl⟩ _;have hbag5:Bag _ [s.arr k5,Sr fa fc F]:=⟨_,Src.at hg5,hL5⟩;by_cases hr0:0<r5
    ·refine G.gT (r5:Int) 0 ?_;refine G.B 144 3 24 (.agg #[.int .i64 0,.int .i64 0,.int .i64 0]) [.agg #[.int .i64 (a:Int),.int .i64 ((2:Nat):Int),.int .i64 ((0:Nat):Int)]] (Hu (a,2,0)) ?_;intro g6 u6 l6 e6;obtain⟨mm6,hx6,hput6⟩:=hbag5.focus 1 rfl;rw[Xa]at hx6;refine G.append 144 3 24 (.agg #[.int .i64 0,.int .i64 0,.int .i64 0]) mm6 (F.map B6) [.agg #[.int .i64 (a:Int),.int .i64 ((2:Nat):Int),.int .i64 ((0:Nat):Int)]] (.slice fa F.length fc) g6 0 1 1 kV rfl rfl oV hx6 e6 (Hu (a,2,0)) rfl oV (by simp[Ag];omega) (by simp[Ag];omega) ?_;intro w6 mn6 hy6;rw[show F.map B6++[.agg #[.int .i64 (a:Int),.int .i64 ((2:Nat):Int),.int .i64 ((0:Nat):Int)]]=(F++[(a,2,0)]).map B6 by rw[A07];rfl]at hy6;obtain⟨a6,c6,rfl⟩:=hy6.shape;rw[A0p]at hy6⊢;have hbag6:=hput6 (Sr a6 c6 (F++[(a,2,0)])) mn6 hy6;simp only[A2c,A2k]at hbag6;refine G.i a ?_;exact G.b (hJ1 (a+1,k5,F++[(a,2,0)],(a6,c6),lab) _ _ _ cV ((l4.trans l5).trans l6) ⟨dV,hk5,hF.put hTa (.inr ⟨rfl,rfl,rfl⟩),hbag6⟩ dV)
    ·refine G.gF (r5:Int) 0 ?_;refine G.i a ?_;exact G.b (hJ1 (a+1,k5,F,(fa,fc),lab) _ _ _ cV (l4.trans l5) ⟨dV,hk5,hF.skip,hbag5⟩ dV)
   ·refine G.eF (kd:Int) 3 ?_;refine G.i a ?_;exact G.b (hJ1 (a+1,k3,F,(fa,fc),lab) _ _ _ cV l4 ⟨dV,hk3,hF.skip,hbag4⟩ dV)
 obtain rfl:a=T.length:=oV
 refine G.lF (T.length:Int) (T.length:Int) ?_;obtain⟨n5,hsrc5,hL5⟩:=hbag4;obtain⟨rfl,hg5⟩:=Src.split hsrc5;refine G.giveP (ma:=n5) (sm:=s.M k3) kV rfl (Src.apart hg5) (s.h0 k k3) ?_;intro u5 l5 hm5;have hFL:Ab u5 (.slice fa F.length fc) 3 (F.map B6):=hL5.list hm5 0 rfl;refine G.gF (F.length:Int) 8 ?_;exact G.r (.agg #[.slice ta T.length tc,.slice ra R.length rc,.slice fa F.length fc,.int .i64 lab]) ⟨T,R,F,lab,k3,⟨_,_,_,_,_,_,rfl,hAL.mono (l4.trans l5),hRL.mono (l4.trans l5),hFL⟩,Aow hT.toTOK (hR.mono ((l3.trans l4).trans l5)) hF hTpos oV oV,hT6,hk3,rfl,hT.toTOK,hT.lem,A0q hF.len hT.lem⟩
end
section
abbrev E7:Type:=List (List UInt8)×Nat×(Option Addr×Nat)
def Id (y:E7):Value:=.agg #[.slice y.2.2.1 y.1.length y.2.2.2,.int .i64 (y.2.1:Int)]
theorem Z0 (x:E7):A3 2 [Id x]:=by
 intro e he;simp at he;subst he;exact⟨rfl,fun y hy=>by simp[Id,A1e]at hy;rcases hy with rfl|rfl<;>rfl⟩
def Ale (a:Option Addr)(c:Nat)(L:List E7):Arr:=⟨.slice a L.length c,72,2,L.map Id⟩
theorem Al9 {a:Option Addr}{c:Nat}{L:List E7}{m0 m:PH}:(Ale a c L).At m0 m=Ae m0 m (.slice a L.length c) 72 2 (L.map Id):=rfl
def WOK (u:PH)(T:List (List UInt8×Nat))(L:List E7):Prop:=∀ y∈L,Ab u (.slice y.2.2.1 y.1.length y.2.2.2) 1 (y.1.map nmV)/\Cr T y.1/\1<=y.2.1/\y.2.1<=7
theorem WOK.mono {u u':PH}{T:List (List UInt8×Nat)}{L:List E7}(h:WOK u T L)(hl:PH.le u u'):WOK u' T L:=fun y hy=>⟨(h y hy).1.mono hl,(h y hy).2⟩
theorem Acr {u:PH}{s:Src}{ts:List Int}{k most:Nat}{v:Value}{T:List (List UInt8×Nat)}{R:List Bk}{F:List Ao}{lab:Int}(h:Aq7 u s ts)(hk:k<=s.n)(hX:F1 u v T R F lab)(ok:Bn u T R F lab)(hm:most<=100) :
 Ai prog 46 [s.ptr,v,.int .i64 (most:Int)] u (s.M k) fun r u' m'=>∃ (L:List E7) (k':Nat),Ab u' r 2 (L.map Id)/\L.length<=most/\WOK u' T L/\k'<=s.n/\m'=s.M k':=by
 obtain⟨xa,xc,xb,xd,xe,xf,rfl,hTL,hRL,hFL⟩:=id hX;have t2:=ok.t2;refine Ai.o func46 ?_;refine G.i most ?_;refine G.A call73 (Ia (n:=most+1) h hk oV oV) ?_;rintro v1 u1 m1 l1 ⟨r,k1,rfl,hr,hk1,rfl⟩ _;rw[C2];refine G.l (ι:=Nat×Nat×List E7×(Option Addr×Nat)) (fun i=>[(0,.v s.ptr),(4,.p 0 0),(7,sV i.2.2.2.1 i.2.2.1.length i.2.2.2.2),(8,iV i.1)])
  (fun _=>[(0,⟨31,[sV xa T.length xc,sV xb R.length xd,sV xe F.length xf,iV lab]⟩)])
  (fun i u' m'=>i.1+i.2.2.1.length=r/\i.2.1<=s.n/\WOK u' T i.2.2.1/\Bag m' [s.arr i.2.1,Ale i.2.2.2.1 i.2.2.2.2 i.2.2.1])
  (fun i=>i.1) (r,k1,[],(none,0))
  ⟨rfl,hk1,fun y hy=>by simp at hy,s.bag0 k1 ⟨PH.mt,Ae.nil _ _ _,trivial⟩⟩ ?_
 rintro J ⟨i,k2,L,⟨na,nc⟩⟩ hJ u2 m2 l2 ⟨hi,hk2,hW,hbag⟩;simp only at hi hk2 hW hbag hJ;have le2:=l1.trans l2;obtain⟨m0,hsrc,hL⟩:=hbag;obtain⟨rfl,hg0⟩:=Src.split hsrc;by_cases hlt:0<i
 ·refine G.gT (i:Int) 0 ?_;refine G.D call103 (Src.apart hg0) (Af2 (w:=.slice xb R.length xd) (x:=.slice xe F.length xf) (y:=.int .i64 lab) (h.mono le2) hk2 (hTL.mono le2) oV ok.att.kind ⟨_,_,_,rfl⟩ ⟨_,_,_,rfl⟩ ⟨_,rfl⟩) ?_;rintro v3 u3 m3 l3 ⟨ss,k3,hS,hSl,hSv,hk3,rfl⟩ _;obtain⟨ya,yc,rfl⟩:=hS.opn;rw[A0p]at hS⊢;refine G.buildU 3 1 8 (.int .i64 0) (Dx [1,1,2,7]) kV (K9 _) rfl oV (by simp[Dx]) (by simp[Dx]) ?_;intro g4 u4 l4 e4;refine G.D call104 (Src.apart hg0) (Za (L:=[1,1,2,7]) (h.mono ((le2.trans l3).trans l4)) hk3 e4.listP mV mV) ?_;rintro v5 u5 m5 l5 ⟨z,hz,k5,rfl,hk5,rfl⟩ _;obtain⟨w,rfl,hw1,hw2⟩:∃ w:Nat,z=(w:Int)/\1<=w/\w<=7:=by
   simp at hz;rcases hz with rfl|rfl|rfl
   ·exact⟨1,rfl,oV,oV⟩
   ·exact⟨2,rfl,oV,oV⟩
   ·exact⟨7,rfl,oV,oV⟩
  refine G.B 72 2 32 (.agg #[.slice none 0 0,.int .i64 0]) [.agg #[.slice ya ss.length yc,.int .i64 (w:Int)]] (Z0 (ss,w,ya,yc)) ?_;intro g6 u6 l6 e6;have hbag2:Bag (m0.or (s.M k5)) [s.arr k5,Ale na nc L]:=⟨m0,Src.at hg0,hL⟩;obtain⟨mm,hx0,hput⟩:=hbag2.focus 1 rfl;rw[Al9]at hx0;refine G.k 72 2 32 (.agg #[.slice none 0 0,.int .i64 0]) mm (L.map Id) [Id (ss,w,ya,yc)] (.slice na L.length nc) g6 0 1 1 hx0 e6 (Z0 (ss,w,ya,yc)) ?_;intro v7 m7 hx7;rw[show L.map Id++[Id (ss,w,ya,yc)]=(L++[(ss,w,ya,yc)]).map Id by rw[A07];rfl]at hx7;obtain⟨a7,c7,rfl⟩:=hx7.shape;rw[A0p]at hx7⊢;have hbag3:=hput (Ale a7 c7 (L++[(ss,w,ya,yc)])) m7 hx7;have lx:=((l3.trans l4).trans l5).trans l6;refine G.s (i:Int) 1 ((i-1:Nat):Int) ?_;refine G.b (hJ (i-1,k5,L++[(ss,w,ya,yc)],(a7,c7)) _ _ _ cV (l2.trans lx) ⟨by dsimp only;simp;omega,hk5,?_,hbag3⟩ dV);intro y hy;rcases A01.1 hy with hy|hy
  ·exact hW.mono lx y hy
  ·simp only[A1t]at hy;subst hy;exact⟨hS.mono ((l4.trans l5).trans l6),⟨hSl,hSv⟩,hw1,hw2⟩
 ·obtain rfl:i=0:=oV
  refine G.gF ((0:Nat):Int) 0 ?_;refine G.giveP (ma:=m0) (sm:=s.M k2) kV rfl (Src.apart hg0) (s.h0 k k2) ?_;intro u3 l3 hm3;exact G.r (.slice na L.length nc) ⟨L,k2,hL.list hm3 0 rfl,oV,hW.mono l3,hk2,rfl⟩
end
section
theorem Awv {u:PH}{v v':Value}{T:List (Par×Rat)}(h:Ab u v 3 (T.map A5))(h':Ab u v' 3 (T.map A5))(hl:T.length<=1000000) :
 Fn0 prog 37 [v,v'] u fun r _=>r=.bool true:=by
 obtain⟨a,c,rfl⟩:=h.opn;obtain⟨a',c',rfl⟩:=h'.opn;rw[A0p]at h h'⊢;refine Fn0.o func37 ?_;refine G.nF (T.length:Int) (T.length:Int) ?_;refine G.l (ι:=Nat) (fun i=>[(0,sV a T.length c),(1,sV a' T.length c'),(12,iV T.length),(13,iV i)]) (fun _=>[])
  (fun i u' m'=>i<=T.length/\m'=PH.mt) (fun i=>T.length-i) 0 ⟨oV,rfl⟩ ?_
 rintro J i hJ u1 m1 l1 ⟨hi,rfl⟩;by_cases hlt:i<T.length
 ·refine G.lT (i:Int) (T.length:Int) ?_;have hTi:T[i]?=some T[i]:=A0n hlt;obtain⟨ba,oa,rfl,ea⟩:=Ab.at' (h.mono l1) (j:=i) (e:=A5 T[i]) (by simp[hTi]);obtain⟨bb,ob,rfl,eb⟩:=Ab.at' (h'.mono l1) (j:=i) (e:=A5 T[i]) (by simp[hTi]);refine G.a ba oa T.length c i 3 oV ?_;refine G.lU (some 3) ba (oa+i*3) (A5 T[i]) ea ?_;refine G.a bb ob T.length c' i 3 oV ?_;refine G.lU (some 3) bb (ob+i*3) (A5 T[i]) eb ?_;refine G.neAgg 81 #[.int .i64 T[i].1.1,.string (mkS T[i].1.2),.string (mkS (Af T[i].2))] #[.int .i64 T[i].1.1,.string (mkS T[i].1.2),.string (mkS (Af T[i].2))] true kV kV kV (Azm T[i]) ?_;refine G.i i ?_;exact G.b (hJ (i+1) _ _ _ cV l1 ⟨oV,rfl⟩ oV)
 ·obtain rfl:i=T.length:=oV
  refine G.lF (T.length:Int) (T.length:Int) ?_;exact G.r (.bool true) ⟨rfl,rfl⟩
end
section
end
section
variable {F:List Ao}{R:List Bk}{T:List (List UInt8×Nat)}{lab:Int}{u:PH}
theorem Iv {α:Type}{p:List α->Prop}(h0:p [])(h1:∀ l a,p l->p (l++[a]))(l:List α):p l:=by
 have:∀ r:List α,p r.reverse:=fun r=>by
  induction r with
  |nil=>exact h0
  |cons a r ih=>rw[List.reverse_cons];exact h1 _ _ ih
 have:=this l.reverse;rwa[List.reverse_reverse]at this
noncomputable def C8 (F:List Ao)(lab:Int)(L:List E7):CF:=L.foldl (fun C y=>C.add ((cfT F lab y.1).scale (y.2.1:Rat))) (CF.num 0)
theorem F5 (F:List Ao)(lab:Int)(L:List E7)(y:E7):C8 F lab (L++[y])=(C8 F lab L).add ((cfT F lab y.1).scale (y.2.1:Rat)):=by
 unfold C8;rw[List.foldl_append];rfl
theorem Akk {w:Nat}(h:w<=7):Dn 0 7 (w:Rat):=⟨(w:Int),by simp[A2j],by simpa using h⟩
theorem Ag1 {ss:List (List UInt8)}(ok:Bn u T R F lab)(ht:Cr T ss):CFD (2*T.length) (46656^T.length) (cfT F lab ss)/\CFV (cfT F lab ss):=by
 have hsm:=Kt ok ht;have hl:(Em F lab ss).length=T.length:=by rw[F3];exact ht.len
 have:=Nu hsm (Em F lab ss).length (A0w _);rw[A1k,hl]at this;exact this
theorem Wr (ok:Bn u T R F lab):∀ {L:List E7},(∀ y∈L,Cr T y.1/\y.2.1<=7)->CFD (2*T.length) (L.length*(46656^T.length*7)) (C8 F lab L)/\CFV (C8 F lab L):=by
 intro L;induction L using Iv with
 |h0=>exact fun _=>⟨CFD.count (Dn.zero _ _),CFV.count 0⟩
 |h1 L y ih =>
  intro h;obtain⟨i1,i2⟩:=ih fun z hz=>h z (A24 _ hz);obtain⟨h1,h2⟩:=h y mV;obtain⟨c1,c2⟩:=Ag1 ok h1;rw[F5];refine⟨?_,i2.add (c2.scale _)⟩;have:=i1.add (c1.scale (Akk h2));rw[A0z,A2o,A1o,A3d];exact this
end
section
end
section
variable {F:List Ao}{T:List (List UInt8×Nat)}{lab:Int}
theorem An7 {ss:List (List UInt8)}(hF:Dk T F lab)(ht:Cr T ss)(h1:-1<=lab)(h2:∀ l:Nat,lab=(l:Int)->l<ss.length) :
 ((cfT F lab ss).c=1/\∀ p q,(cfT F lab ss).t (Ap p q)=(cfT F lab ss).s p*(cfT F lab ss).s q)\/((cfT F lab ss).c=0/\(∀ p,(cfT F lab ss).s p=0)/\∀ k,(cfT F lab ss).t k=0):=by
 cases hc:T4 F lab ss with
 |false=>right;rw[Ajf hF ht h1 h2 hc];exact⟨rfl,fun _=>rfl,fun _=>rfl⟩
 |true =>
  left;have ho:=Ac8 hF ht h1 h2 hc;refine⟨ho.c,fun p q=>?_⟩;rw[ho.t,if_neg (Pl p q)];by_cases h:0<A8 p q
  ·rw[K8 h];grind
  ·rw[Ft h]
theorem Aci (n:Nat):(0:Rat)<=(n:Rat):=by
 have:((0:Nat):Rat)<=(n:Rat):=by exact_mod_cast A1m n
 exact this
theorem An2 (hF:Dk T F lab)(h1:-1<=lab)(h2:∀ l:Nat,lab=(l:Int)->l<T.length):∀ {L:List E7},(∀ y∈L,Cr T y.1/\y.2.1<=7)->∃ k:Nat,(C8 F lab L).c=(k:Rat)/\k<=7*L.length:=by
 intro L;induction L using Iv with
 |h0=>exact fun _=>⟨0,rfl,mV⟩
 |h1 L y ih =>
  intro h;obtain⟨k,hk,hkl⟩:=ih fun z hz=>h z (A24 _ hz);obtain⟨hy,hw⟩:=h y mV;have hlen:=hy.len;rw[F5];show ∃ k:Nat,(C8 F lab L).c+(cfT F lab y.1).c*(y.2.1:Rat)=(k:Rat)/\_;rw[hk];rw[A0z,A2o];rcases An7 hF hy h1 (fun l hl=>by have:=h2 l hl;omega) with ⟨e1,_⟩|⟨e1,_⟩
  ·exact⟨k+y.2.1,by rw[e1,Rat.natCast_add];grind,oV⟩
  ·exact⟨k,by rw[e1];grind,oV⟩
end
section
variable {a b c d:Nat}{q:Rat}
def De (a b:Nat)(q:Rat):Prop:=∃ (k:Int) (D:Nat),q*(D:Rat)=(k:Rat)/\0<D/\k.natAbs<10^a/\D<10^b
theorem Pr {D:Nat}(h:0<D):(D:Rat)≠0:=by
 intro e;have h1:(D:Rat)=((0:Nat):Rat):=e;have:=Rat.natCast_inj.1 h1;omega
theorem De.mono (h:De a b q)(h1:a<=c)(h2:b<=d):De c d q:=by
 obtain⟨k,D,e,h0,h3,h4⟩:=h;exact⟨k,D,e,h0,A2e h3 (A1l oV h1),A2e h4 (A1l oV h2)⟩
theorem Di {x y a b:Nat}(h1:x<10^a)(h2:y<10^b):x*y<10^(a+b):=by
 rw[Nat.pow_add];exact Nat.mul_lt_mul'' h1 h2
theorem De.add {a b c d f:Nat}{q r:Rat}(h:De a b q)(h':De c d r)(h1:a+d<=f)(h2:c+b<=f):De (f+1) (b+d) (q+r):=by
 obtain⟨k,D,e,h0,h3,h4⟩:=h;obtain⟨l,E,e',k0,k3,k4⟩:=h';refine⟨k*(E:Int)+l*(D:Int),D*E,?_,A5h h0 k0,?_,Di h4 k4⟩
 ·rw[Rat.intCast_add,A23,A23,<-e,<-e',Rat.natCast_mul,A2j,A2j];grind
 ·have g1:(k*(E:Int)).natAbs<10^f:=by
   rw[A30];exact A2e (Di h3 (by simpa using k4)) (A1l oV h1)
  have g2:(l*(D:Int)).natAbs<10^f:=by
   rw[A30];exact A2e (Di k3 (by simpa using h4)) (A1l oV h2)
  rw[Nat.pow_succ];omega
theorem De.nat {a n:Nat}(h:n<10^a):De a 1 (n:Rat):=⟨(n:Int),1,by rw[A2j];show (n:Rat)*1=_;grind,oV,by simpa using h,oV⟩
theorem De.frac (h:De a b q):q.num.natAbs<10^a/\q.den<10^b:=by
 obtain⟨k,D,h1,hp,hk,hD⟩:=h;have hq:q=A2m k (D:Int):=by
  rw[Rat.divInt_eq_div,A2j,<-h1];have:=Pr hp;grind
 obtain⟨e1,e2,e3⟩:=Ju (y:=k) (z:=(D:Int)) oV;rw[hq];constructor
 ·rw[e1,Int.natAbs_tdiv];exact Nat.lt_of_le_of_lt (A3v _ _) hk
 ·have h2:((A2m k (D:Int)).den:Int)<=(D:Int):=by
   rw[e2,show ((D:Int)).natAbs=D from rfl,Int.tdiv_eq_ediv_of_nonneg oV,<-Int.natCast_ediv];exact Int.ofNat_le.2 (A3v _ _)
  omega
theorem De.tx (h:De a b q)(ha:0<a)(ha2:a<=400)(hb:0<b)(hb2:b<=400):Tx q:=by
 obtain⟨h1,h2⟩:=h.frac;exact⟨A0q (Ed ha h1) ha2,A0q (Ed hb h2) hb2⟩
theorem De.szn (h:De a b q)(ha:0<a)(ha2:a<=400)(hb:0<b)(hb2:b<=400):Sz q 400:=(h.tx ha ha2 hb hb2).sz
end
section
variable {H:CF}
def Au {α:Type}(f:α->Rat):List α->Rat
 |[]=>0
 |a::l=>f a+Au f l
section
variable {α β:Type} {f g:α->Rat}
theorem P8:∀ (l l':List α),Au f (l++l')=Au f l+Au f l'
 |[],l'=>by show Au f l'=0+Au f l';grind
 |a::l,l'=>by show f a+Au f (l++l')=f a+Au f l+Au f l';rw[P8 l l'];grind
theorem Iu (l:List α)(a:α):Au f (l++[a])=Au f l+f a:=by
 rw[P8];show _+(f a+0)=_;grind
theorem Bb:∀ {l:List α},(∀ a∈l,f a=g a)->Au f l=Au g l
 |[],_=>rfl
 |a::l,h=>by
  show f a+Au f l=g a+Au g l;rw[h a (A3r ..),Bb fun x hx=>h x (A1w _ hx)]
theorem D1:∀ (l:List α),Au (fun a=>f a+g a) l=Au f l+Au g l
 |[]=>by show (0:Rat)=0+0;grind
 |a::l=>by show f a+g a+Au (fun a=>f a+g a) l=(f a+Au f l)+(g a+Au g l);rw[D1 l];grind
theorem Ej (k:Rat):∀ (l:List α),Au (fun a=>f a*k) l=Au f l*k
 |[]=>by show (0:Rat)=0*k;grind
 |a::l=>by show f a*k+Au (fun a=>f a*k) l=(f a+Au f l)*k;rw[Ej k l];grind
theorem Dr (k:Rat)(l:List α):Au (fun a=>k*f a) l=k*Au f l:=by
 rw[show (fun a=>k*f a)=fun a=>f a*k from funext fun a=>by grind,Ej];grind
theorem Bv:∀ {l:List α},(∀ a∈l,f a=0)->Au f l=0
 |[],_=>rfl
 |a::l,h=>by
  show f a+Au f l=0;rw[h a (A3r ..),Bv fun x hx=>h x (A1w _ hx)];grind
theorem On (h:β->α):∀ (l:List β),Au f (l.map h)=Au (fun b=>f (h b)) l
 |[]=>rfl
 |a::l=>by show f (h a)+Au f (l.map h)=f (h a)+Au (fun b=>f (h b)) l;rw[On h l]
end
def Ak (P:List Par):List (Option Par):=none::P.map some
def Aq:Par:=(-1,[])
def As (C:CF):Option Par->Option Par->Rat
 |none,none=>C.c
 |none,some p=>C.s p
 |some p,none=>C.s p
 |some p,some q=>C.t (Ap p q)
def Ay (C:CF):Option Par->Rat
 |none=>C.s Aq
 |some p=>C.t (Ap Aq p)
def Bm (b:Option Par->Rat)(P:List Par)(C:CF):Rat:=Au (fun e=>Au (fun f=>b e*As C e f*b f) (Ak P)) (Ak P)
def Kf (b:Option Par->Rat)(P:List Par)(C:CF):Rat:=C.s Aq-Au (fun e=>b e*As C none e) (Ak P)
def sqC (b:Option Par->Rat)(P:List Par)(C:CF):Rat:=Bm b P C+C.t (Ap Aq Aq)-2*Au (fun e=>b e*Ay C e) (Ak P)
theorem Vv (C H:CF)(w:Rat)(e f:Option Par):As (C.add (H.scale w)) e f=As C e f+As H e f*w:=by
 cases e<;>cases f<;>rfl
theorem T2 (C H:CF)(w:Rat)(e:Option Par):Ay (C.add (H.scale w)) e=Ay C e+Ay H e*w:=by
 cases e<;>rfl
theorem Uu (b:Option Par->Rat)(P:List Par)(C H:CF)(w:Rat):Bm b P (C.add (H.scale w))=Bm b P C+Bm b P H*w:=by
 unfold Bm;rw[<-Ej w,<-D1];refine Bb fun e _=>?_;rw[<-Ej w,<-D1];refine Bb fun f _=>?_;rw[Vv];grind
theorem Alu (b:Option Par->Rat)(P:List Par)(C H:CF)(w:Rat):sqC b P (C.add (H.scale w))=sqC b P C+sqC b P H*w:=by
 unfold sqC;have e1:Au (fun e=>b e*Ay (C.add (H.scale w)) e) (Ak P)=Au (fun e=>b e*Ay C e) (Ak P)+Au (fun e=>b e*Ay H e) (Ak P)*w:=by
  rw[<-Ej w,<-D1];exact Bb fun e _=>by rw[T2];grind
 rw[e1,Uu];show _+(C.t (Ap Aq Aq)+H.t (Ap Aq Aq)*w)-_=_;grind
def Ua (b:Option Par->Rat)(P:List Par)(x:Par->Rat):Rat:=b none+Au (fun p=>b (some p)*x p) P
def Afw (x:Par->Rat):Option Par->Rat
 |none=>1
 |some p=>x p
theorem Sm (b:Option Par->Rat)(P:List Par)(x:Par->Rat):Au (fun e=>b e*Afw x e) (Ak P)=Ua b P x:=by
 unfold Ak Ua;show b none*1+Au _ (P.map some)=_;rw[On];show b none*1+Au (fun p=>b (some p)*x p) P=_;grind
structure Ws (H:CF):Prop where
 c:H.c=1
 t:∀ p q,H.t (Ap p q)=H.s p*H.s q
theorem Ws.cell (h:Ws H)(e f:Option Par):As H e f=Afw H.s e*Afw H.s f:=by
 cases e<;>cases f
 ·show H.c=1*1;rw[h.c];grind
 ·show H.s _=1*H.s _;grind
 ·show H.s _=H.s _*1;grind
 ·exact h.t _ _
theorem Ws.right (h:Ws H)(e:Option Par):Ay H e=H.s Aq*Afw H.s e:=by
 cases e
 ·show H.s Aq=H.s Aq*1;grind
 ·exact h.t _ _
theorem Ws.norm (h:Ws H)(b:Option Par->Rat)(P:List Par):Bm b P H=Ua b P H.s*Ua b P H.s:=by
 unfold Bm;have e1:∀ e,Au (fun f=>b e*As H e f*b f) (Ak P)=(b e*Afw H.s e)*Ua b P H.s:=fun e=>by
  rw[<-Sm,<-Dr];exact Bb fun f _=>by rw[h.cell];grind
 rw[Bb fun e _=>e1 e,Ej,Sm]
theorem Ws.sq (h:Ws H)(b:Option Par->Rat)(P:List Par):sqC b P H=(H.s Aq-Ua b P H.s)*(H.s Aq-Ua b P H.s):=by
 unfold sqC;have e1:Au (fun e=>b e*Ay H e) (Ak P)=H.s Aq*Ua b P H.s:=by
  rw[<-Sm,<-Dr];exact Bb fun e _=>by rw[h.right];grind
 rw[h.norm,e1,h.t];grind
structure Yg (H:CF):Prop where
 c:H.c=0
 s:∀ p,H.s p=0
 t:∀ k,H.t k=0
theorem Yg.cell (h:Yg H)(e f:Option Par):As H e f=0:=by
 cases e<;>cases f
 ·exact h.c
 ·exact h.s _
 ·exact h.s _
 ·exact h.t _
theorem Yg.norm (h:Yg H)(b:Option Par->Rat)(P:List Par):Bm b P H=0 :=
 Bv fun e _=>Bv fun f _=>by rw[h.cell];grind
theorem Yg.sq (h:Yg H)(b:Option Par->Rat)(P:List Par):sqC b P H=0:=by
 unfold sqC;have e1:Au (fun e=>b e*Ay H e) (Ak P)=0:=Bv fun e _=>by
  cases e
  ·show b none*H.s Aq=0;rw[h.s];grind
  ·show b _*H.t _=0;rw[h.t];grind
 rw[h.norm,h.t,e1];grind
theorem L9 {T:List (List UInt8×Nat)}{F:List Ao}{lab:Int}{ss:List (List UInt8)}(hF:Dk T F lab)(ht:Cr T ss)(h1:-1<=lab)(h2:∀ l:Nat,lab=(l:Int)->l<ss.length) :
 (T4 F lab ss=true/\Ws (cfT F lab ss))\/(T4 F lab ss=false/\Yg (cfT F lab ss)):=by
 cases hc:T4 F lab ss with
 |false=>right;rw[Ajf hF ht h1 h2 hc];exact⟨rfl,rfl,fun _=>rfl,fun _=>rfl⟩
 |true =>
  left;have ho:=Ac8 hF ht h1 h2 hc;refine⟨rfl,ho.c,fun p q=>?_⟩;rw[ho.t,if_neg (Pl p q)];by_cases h:0<A8 p q
  ·rw[K8 h];grind
  ·rw[Ft h]
end
section
variable {F:CF}{N:Nat}{q:Rat}{u:PH}{v:Value}
theorem Lx (p:Par)(h:Mf u v F N):Fn0 prog 124 [v,An p] u fun r u'=>Av u' r (F.s p):=by
 obtain⟨b,a,n,c,b',a',n',c',g1,g2,o1,o2,rfl,hc,e1,e2,h1,h2⟩:=h;obtain⟨l,ho,hl,hz,_⟩:=h1.at;refine Fn0.o func124 ?_;cases hx:Fi p l with
 |none =>
  refine G.mapNot (et:=116) Bt fz g1 o1 l p kV kV (.inl e1) ho hx ?_;refine G.c call98 (L8 (z:=0) oV oV) ?_;intro v1 u1 l1 k1;rw[hz p (Fz.1 hx)];rw[show ((0:Int):Rat)=0 by decide +kernel]at k1;obtain⟨b1,a1,n1,c1,b1',a1',n1',c1',rfl⟩:=k1.opn;exact G.r (.agg #[.bool b1,.slice a1 n1 c1,.bool b1',.slice a1' n1' c1']) ⟨rfl,k1⟩
 |some xv =>
  have hr:=(hl _ (Hk hx)).1;obtain⟨b1,a1,n1,c1,b1',a1',n1',c1',rfl⟩:=hr.opn;refine G.mapHas (et:=116) Bt fz g1 o1 l p (.agg #[.bool b1,.slice a1 n1 c1,.bool b1',.slice a1' n1' c1']) kV kV (.inl e1) ho hx ?_;exact G.r (.agg #[.bool b1,.slice a1 n1 c1,.bool b1',.slice a1' n1' c1']) ⟨rfl,hr⟩
theorem Oc (p q:Par)(h:Mf u v F N):Fn0 prog 118 [v,An p,An q] u fun r u'=>Av u' r (F.t (Ap p q)):=by
 obtain⟨b,a,n,c,b',a',n',c',g1,g2,o1,o2,rfl,hc,e1,e2,h1,h2⟩:=h;obtain⟨l,ho,hl,hz,_⟩:=h2.at;refine Fn0.o func118 ?_;refine G.c call193 (Apg p q) ?_;rintro v0 u0 l0 rfl;cases hx:Fi (Ap p q) l with
 |none =>
  refine G.mapNot (et:=116) Aiy fz g2 o2 l (Ap p q) kV kV (.inl (l0 _ _ e2)) ho hx ?_;refine G.c call98 (L8 (z:=0) oV oV) ?_;intro v1 u1 l1 k1;rw[hz _ (Fz.1 hx)];rw[show ((0:Int):Rat)=0 by decide +kernel]at k1;obtain⟨b1,a1,n1,c1,b1',a1',n1',c1',rfl⟩:=k1.opn;exact G.r (.agg #[.bool b1,.slice a1 n1 c1,.bool b1',.slice a1' n1' c1']) ⟨rfl,k1⟩
 |some xv =>
  have hr:=(hl _ (Hk hx)).1;obtain⟨b1,a1,n1,c1,b1',a1',n1',c1',rfl⟩:=hr.opn;refine G.mapHas (et:=116) Aiy fz g2 o2 l (Ap p q) (.agg #[.bool b1,.slice a1 n1 c1,.bool b1',.slice a1' n1' c1']) kV kV (.inl (l0 _ _ e2)) ho hx ?_;exact G.r (.agg #[.bool b1,.slice a1 n1 c1,.bool b1',.slice a1' n1' c1']) ⟨rfl,hr.mono l0⟩
theorem Zw (h:Tx q):Fn0 prog 115 [.string (mkS (Af q))] u fun v _=>v=.int .i64 (sgn q.num):=by
 refine Fn0.o func115 ?_;refine G.c call154 (Aqm h) ?_;rintro v1 u1 l1 rfl;refine G.c call77 (Iy h) ?_;intro v2 u2 l2 k2;obtain⟨b1,a1,n1,c1,b1',a1',n1',c1',rfl⟩:=k2.opn;refine G.c call97 (Vq k2 (A0q h.sz.1 oV)) ?_;rintro v3 u3 l3 rfl;exact G.r _ ⟨rfl,rfl⟩
theorem Aaq (h:Tx q):Fn0 prog 42 [.string (mkS (Af q))] u fun v _=>v=.int .i64 (sgn q.num):=by
 refine Fn0.o func42 ?_;refine G.c call30 (Cp h) ?_;rintro v1 u1 l1 rfl;refine G.c call31 (Eh h) ?_;intro v3 u3 l3 k3;obtain⟨b3,a3,n3,c3,a3',n3',c3',rfl,_⟩:=k3.opn;refine G.c call94 (Yn k3 (A0q h.sz.1 oV)) ?_;rintro v6 u6 l6 rfl;exact G.r _ ⟨rfl,rfl⟩
end
section
variable {C:CF}{k:Nat}
structure Iq (C:CF)(k:Nat):Prop where
 c:C.c=(k:Rat)
 lt:k<100
 s:∀ p,De 39 18 (C.s p)
 t:∀ p,De 39 18 (C.t p)
theorem Iq.tx {C:CF}{k:Nat}(h:Iq C k):Tx C.c:=by
 rw[h.c];exact (De.nat (a:=2) (by have:=h.lt;omega)).tx oV oV oV oV
theorem Iq.cpos (h:Iq C k)(h0:k≠0):0<C.c:=by
 rw[h.c];have h1:=Aci k;refine Rat.lt_of_le_of_ne h1 fun e=>Pr (D:=k) oV e.symm
theorem Iq.csz (h:Iq C k):Sz C.c 1000:=h.tx.sz.mono oV
end
section
variable {C:CF}{N i:Nat}{P:List Par}{b:Option Par->Rat}{e:Option Par}{lv v:Value}{u:PH}
structure Nj (u:PH)(v:Value)(P:List Par)(b:Option Par->Rat):Prop where
 val:∃ a c a' c',v=.agg #[.slice a P.length c,.slice a' (P.length+1) c']/\Ab u (.slice a P.length c) 2 (P.map An)/\M6 u (.slice a' (P.length+1) c') ((Ak P).map b)
theorem Nj.mono {u u':PH}{v:Value}{P:List Par}{b:Option Par->Rat}(h:Nj u v P b)(hl:PH.le u u'):Nj u' v P b:=by
 obtain⟨a,c,a',c',e,h1,h2⟩:=h.val;exact⟨a,c,a',c',e,h1.mono hl,h2.mono hl⟩
theorem Bo (P:List Par):(Ak P).length=P.length+1:=by unfold Ak;simp
theorem Ra (h:(Ak P)[i]?=some e):(i=0/\e=none)\/∃ j p,i=j+1/\P[j]?=some p/\e=some p:=by
 unfold Ak at h;cases i with
 |zero=>simp at h;exact .inl ⟨rfl,h.symm⟩
 |succ j =>
  rw[List.getElem?_cons_succ,A0v]at h;obtain⟨p,hp,rfl⟩:=Option.map_eq_some_iff.1 h;exact .inr ⟨j,p,rfl,hp,rfl⟩
theorem M4 :Fn0 prog 96 [] u fun r _=>r=An Aq:=by
 refine Fn0.o func96 ?_;exact G.r (An Aq) ⟨rfl,rfl⟩
theorem Ir {F:CF}(h:Mf u v F N):∃ b a n c b' a' n' c' g1 g2,v=.agg #[.bool b,.slice a n c,.bool b',.slice a' n' c',.map (some g1),.map (some g2)]/\Av u (.agg #[.bool b,.slice a n c,.bool b',.slice a' n' c']) F.c:=by
 obtain⟨b,a,n,c,b',a',n',c',g1,g2,o1,o2,e,h1,_⟩:=h;exact⟨b,a,n,c,b',a',n',c',g1,g2,e,h1⟩
theorem Sf {N i k:Nat}{e f:Option Par}(hl:Nj u lv P b)(hv:Mf u v C N)(hP:P.length<=1000)(he:(Ak P)[i]?=some e)(hf:(Ak P)[k]?=some f) :
 Fn0 prog 125 [lv,v,.int .i64 (i:Int),.int .i64 (k:Int)] u fun r u'=>Av u' r (As C e f):=by
 obtain⟨pa,pc,ca,cc,rfl,hPL,_⟩:=hl.val;obtain⟨b0,a0,n0,c0,b0',a0',n0',c0',g1,g2,rfl,hc⟩:=Ir hv;refine Fn0.o func125 ?_;rcases Ra he with ⟨rfl,rfl⟩|⟨i,p,rfl,hpi,rfl⟩
 ·refine G.eT' ((0:Nat):Int) 0 rfl ?_;rcases Ra hf with ⟨rfl,rfl⟩|⟨k,q,rfl,hqk,rfl⟩
  ·refine G.eT' ((0:Nat):Int) 0 rfl ?_;exact G.r (.agg #[.bool b0,.slice a0 n0 c0,.bool b0',.slice a0' n0' c0']) ⟨rfl,hc⟩
  ·have hkl:=(A0s.1 hqk).1;refine G.eF ((k+1:Nat):Int) 0 ?_;refine G.eT' ((0:Nat):Int) 0 rfl ?_;refine G.s ((k+1:Nat):Int) 1 (k:Int) ?_;obtain⟨bb,ob,rfl,eb⟩:=Ab.at' hPL (j:=k) (e:=An q) (by simp[hqk]);refine G.a bb ob P.length pc k 2 hkl ?_;refine G.lU (some 2) bb (ob+k*2) (An q) eb ?_;refine G.c call124 (Lx q hv) ?_;intro v1 u1 l1 k1;obtain⟨b1,a1,n1,c1,b1',a1',n1',c1',rfl⟩:=k1.opn;exact G.r (.agg #[.bool b1,.slice a1 n1 c1,.bool b1',.slice a1' n1' c1']) ⟨rfl,k1⟩
 ·have hil:=(A0s.1 hpi).1;obtain⟨bb,ob,rfl,eb⟩:=Ab.at' hPL (j:=i) (e:=An p) (by simp[hpi]);refine G.eF ((i+1:Nat):Int) 0 ?_;refine G.eF ((i+1:Nat):Int) 0 ?_;rcases Ra hf with ⟨rfl,rfl⟩|⟨k,q,rfl,hqk,rfl⟩
  ·refine G.eT' ((0:Nat):Int) 0 rfl ?_;refine G.s ((i+1:Nat):Int) 1 (i:Int) ?_;refine G.a bb ob P.length pc i 2 hil ?_;refine G.lU (some 2) bb (ob+i*2) (An p) eb ?_;refine G.c call124 (Lx p hv) ?_;intro v1 u1 l1 k1;obtain⟨b1,a1,n1,c1,b1',a1',n1',c1',rfl⟩:=k1.opn;exact G.r (.agg #[.bool b1,.slice a1 n1 c1,.bool b1',.slice a1' n1' c1']) ⟨rfl,k1⟩
  ·have hkl:=(A0s.1 hqk).1;obtain⟨b2,o2,e2,eb2⟩:=Ab.at' hPL (j:=k) (e:=An q) (by simp[hqk]);cases e2;refine G.eF ((k+1:Nat):Int) 0 ?_;refine G.s ((i+1:Nat):Int) 1 (i:Int) ?_;refine G.a bb ob P.length pc i 2 hil ?_;refine G.lU (some 2) bb (ob+i*2) (An p) eb ?_;refine G.s ((k+1:Nat):Int) 1 (k:Int) ?_;refine G.a bb ob P.length pc k 2 hkl ?_;refine G.lU (some 2) bb (ob+k*2) (An q) eb2 ?_;refine G.c call118 (Oc p q hv) ?_;intro v1 u1 l1 k1;obtain⟨b1,a1,n1,c1,b1',a1',n1',c1',rfl⟩:=k1.opn;exact G.r (.agg #[.bool b1,.slice a1 n1 c1,.bool b1',.slice a1' n1' c1']) ⟨rfl,k1⟩
theorem Anu (hl:Nj u lv P b)(hv:Mf u v C N)(hP:P.length<=1000)(he:(Ak P)[i]?=some e) :
 Fn0 prog 119 [lv,v,.int .i64 (i:Int)] u fun r u'=>Av u' r (Ay C e):=by
 obtain⟨pa,pc,ca,cc,rfl,hPL,_⟩:=hl.val;obtain⟨b0,a0,n0,c0,b0',a0',n0',c0',g1,g2,rfl,hc⟩:=Ir hv;refine Fn0.o func119 ?_;rcases Ra he with ⟨rfl,rfl⟩|⟨i,p,rfl,hpi,rfl⟩
 ·refine G.eT' ((0:Nat):Int) 0 rfl ?_;refine G.c call96 M4 ?_;rintro v0 u0 l0 rfl;refine G.c call124 (Lx Aq (hv.mono l0)) ?_;intro v1 u1 l1 k1;obtain⟨b1,a1,n1,c1,b1',a1',n1',c1',rfl⟩:=k1.opn;exact G.r (.agg #[.bool b1,.slice a1 n1 c1,.bool b1',.slice a1' n1' c1']) ⟨rfl,k1⟩
 ·have hil:=(A0s.1 hpi).1;obtain⟨bb,ob,rfl,eb⟩:=Ab.at' hPL (j:=i) (e:=An p) (by simp[hpi]);refine G.eF ((i+1:Nat):Int) 0 ?_;refine G.s ((i+1:Nat):Int) 1 (i:Int) ?_;refine G.a bb ob P.length pc i 2 hil ?_;refine G.lU (some 2) bb (ob+i*2) (An p) eb ?_;refine G.c call96 M4 ?_;rintro v0 u0 l0 rfl;refine G.c call118 (Oc Aq p (hv.mono l0)) ?_;intro v1 u1 l1 k1;obtain⟨b1,a1,n1,c1,b1',a1',n1',c1',rfl⟩:=k1.opn;exact G.r (.agg #[.bool b1,.slice a1 n1 c1,.bool b1',.slice a1' n1' c1']) ⟨rfl,k1⟩
end
section
variable {C:CF}{P:List Par}{b:Option Par->Rat}{α:Type}
structure QOK (b:Option Par->Rat)(C:CF):Prop where
 b:∀ e,Sz (b e) 1000
 c:∀ e f,Sz (As C e f) 1000
 r:∀ e,Sz (Ay C e) 1000
 l:Sz (C.t (Ap Aq Aq)) 1000
theorem Om {α:Type}{f:α->Rat}{s:Nat}:∀ {l:List α},(∀ a∈l,Sz (f a) s)->Sz (Au f l) (l.length*(s+1)+1)
 |[],_=>Xv.mono mV
 |a::l,h=>by
  have h1:=Ly (h a (A3r ..)) (Om fun x hx=>h x (A1w _ hx));exact h1.mono (by rw[A2n,A1o];omega)
theorem QOK.half (h:QOK b C)(e f:Option Par):Sz (b e*As C e f) 2000:=In (h.b e) (h.c e f)
theorem QOK.term (h:QOK b C)(e f:Option Par):Sz (b e*As C e f*b f) 3000:=In (h.half e f) (h.b f)
theorem QOK.rt (h:QOK b C)(e:Option Par):Sz (b e*Ay C e) 2000:=In (h.b e) (h.r e)
theorem V7 {l:List α}{f:α->Rat}{s k:Nat}(h:Sz (Au f l) (l.length*(s+1)+1))(hl:l.length<=k):Sz (Au f l) (k*(s+1)+1):=h.mono (by have:=A12 (s+1) hl;omega)
theorem QOK.inner (h:QOK b C)(hP:P.length<=60)(e:Option Par)(l:List (Option Par))(hl:l.length<=61):Sz (Au (fun f=>b e*As C e f*b f) l) 200000 :=
 (V7 (Om fun f _=>h.term e f) hl).mono oV
theorem QOK.outer (h:QOK b C)(hP:P.length<=60)(l:List (Option Par))(hl:l.length<=61):Sz (Au (fun e=>Au (fun f=>b e*As C e f*b f) (Ak P)) l) 20000000 :=
 (V7 (Om fun e _=>h.inner hP e (Ak P) (by rw[Bo];omega)) hl).mono oV
theorem E6 {l:List α}{i:Nat}{x:α}(h:l[i]?=some x):l.take (i+1)=l.take i++[x]:=by rw[A1c,h];rfl
theorem Am3 {u:PH}{lv v:Value}{N:Nat}(hl:Nj u lv P b)(hv:Mf u v C N)(hP:P.length<=60)(hq:QOK b C) :
 Fn0 prog 58 [lv,v] u fun r u'=>Av u' r (Bm b P C):=by
 obtain⟨pa,pc,ca,cc,rfl,hPL,es,hL,hF⟩:=hl.val;have hEl:=Bo P;have hes:es.length=P.length+1:=by rw[hF.1,A0p,hEl]
 obtain⟨b0,a0,n0,c0,b0',a0',n0',c0',g1,g2,rfl,hc⟩:=Ir hv;refine Fn0.o func58 ?_;refine G.c call98 (L8 (z:=0) oV oV) ?_;intro v1 u1 l1 k1;rw[show ((0:Int):Rat)=0 by decide +kernel]at k1;obtain⟨sb,sa,sn,sc,sb',sa',sn',sc',rfl⟩:=k1.opn;refine G.l (ι:=Nat×(Bool×SlI)×(Bool×SlI)) (fun i=>[(2,.p 0 0),(3,.p 1 0),(4,.p 2 0),(5,.p 1001 0),(12,sV ca (P.length+1) cc),(13,iV (P.length+1:Nat)),(14,iV i.1)])
  (fun i=>[(0,⟨126,[sV pa P.length pc,sV ca (P.length+1) cc]⟩),(1,⟨120,[bV b0,sV a0 n0 c0,bV b0',sV a0' n0' c0',.v (.map (some g1)),.v (.map (some g2))]⟩),(2,⟨116,[bV false,sV none 0 0,bV false,sV none 0 0]⟩),(1001,⟨116,[bV i.2.1.1,sV i.2.1.2.1 i.2.1.2.2.1 i.2.1.2.2.2,bV i.2.2.1,sV i.2.2.2.1 i.2.2.2.2.1 i.2.2.2.2.2]⟩)])
  (fun i u' m'=>i.1<=P.length+1/\Av u' (.agg #[.bool i.2.1.1,.slice i.2.1.2.1 i.2.1.2.2.1 i.2.1.2.2.2,.bool i.2.2.1,.slice i.2.2.2.1 i.2.2.2.2.1 i.2.2.2.2.2]) (Au (fun e=>Au (fun f=>b e*As C e f*b f) (Ak P)) ((Ak P).take i.1))/\m'=PH.mt) (fun i=>P.length+1-i.1) (0,(sb,sa,sn,sc),(sb',sa',sn',sc')) ⟨oV,k1,rfl⟩ ?_
 rintro J ⟨i,⟨sb,sa,sn,sc⟩,⟨sb',sa',sn',sc'⟩⟩ hJ u2 m2 l2 ⟨hi,k2,rfl⟩;simp only at hi k2 hJ;have le2:=l1.trans l2;by_cases hlt:i<P.length+1
 ·refine G.lT (i:Int) ((P.length+1:Nat):Int) ?_;obtain⟨e,hEi⟩:∃ e,(Ak P)[i]?=some e:=⟨_,A0n oV⟩;have hout:=hq.outer hP ((Ak P).take i) (by rw[A00];omega);have hstep:Au (fun e=>Au (fun f=>b e*As C e f*b f) (Ak P)) ((Ak P).take (i+1))=Au (fun e=>Au (fun f=>b e*As C e f*b f) (Ak P)) ((Ak P).take i)+Au (fun f=>b e*As C e f*b f) (Ak P):=by rw[E6 hEi,Iu]
  obtain⟨x,hx,hfx⟩:=hF.2 i (b e) (by rw[A0v,hEi];rfl);obtain⟨fb,fo,rfl,ef⟩:=Ab.at' (hL.mono le2) (j:=i) (e:=x) hx;have hfx:=hfx.mono le2;obtain⟨xb,xa,xn,xc,xb',xa',xn',xc',rfl⟩:=hfx.opn;refine G.a fb fo (P.length+1) cc i 4 hlt ?_;refine G.lU (some 4) fb (fo+i*4) (.agg #[.bool xb,.slice xa xn xc,.bool xb',.slice xa' xn' xc']) ef ?_;generalize hS:Au (fun e=>Au (fun f=>b e*As C e f*b f) (Ak P)) ((Ak P).take i)=S at k2 hout hstep;have z0:S+0=S:=by grind
  refine G.l (ι:=Nat×(Bool×SlI)×(Bool×SlI)) (fun n=>[(2,.p 0 0),(3,.p 1 0),(4,.p 2 0),(5,.p 1001 0),(6,iV i),(7,.p 4003 0),(12,sV (some ⟨fb,fo,none⟩) (P.length+1) cc),(13,iV (P.length+1:Nat)),(14,iV i),(20,sV (some ⟨fb,fo,none⟩) (P.length+1) cc),(21,iV (P.length+1:Nat)),(22,iV n.1)])
   (fun n=>[(0,⟨126,[sV pa P.length pc,sV (some ⟨fb,fo,none⟩) (P.length+1) cc]⟩),(1,⟨120,[bV b0,sV a0 n0 c0,bV b0',sV a0' n0' c0',.v (.map (some g1)),.v (.map (some g2))]⟩),(2,⟨116,[bV false,sV none 0 0,bV false,sV none 0 0]⟩),(1001,⟨116,[bV n.2.1.1,sV n.2.1.2.1 n.2.1.2.2.1 n.2.1.2.2.2,bV n.2.2.1,sV n.2.2.2.1 n.2.2.2.2.1 n.2.2.2.2.2]⟩),(4003,⟨116,[bV xb,sV xa xn xc,bV xb',sV xa' xn' xc']⟩)])
   (fun n u' m'=>n.1<=P.length+1/\Av u' (.agg #[.bool n.2.1.1,.slice n.2.1.2.1 n.2.1.2.2.1 n.2.1.2.2.2,.bool n.2.2.1,.slice n.2.2.2.1 n.2.2.2.2.1 n.2.2.2.2.2]) (S+Au (fun f=>b e*As C e f*b f) ((Ak P).take n.1))/\m'=PH.mt) (fun n=>P.length+1-n.1) (0,(sb,sa,sn,sc),(sb',sa',sn',sc')) ⟨oV,by show Av _ _ (S+0);rw[z0];exact k2,rfl⟩ ?_
  rintro J2 ⟨n,⟨tb,ta,tn,tc⟩,⟨tb',ta',tn',tc'⟩⟩ hJ2 u3 m3 l3 ⟨hn,k3,rfl⟩;simp only at hn k3 hJ2;have le3:=le2.trans l3;by_cases hnl:n<P.length+1
  ·refine G.lT (n:Int) ((P.length+1:Nat):Int) ?_;obtain⟨f,hEn⟩:∃ f,(Ak P)[n]?=some f:=⟨_,A0n oV⟩;have hinn:=hq.inner hP e ((Ak P).take n) (by rw[A00];omega);have hstep2:S+Au (fun f=>b e*As C e f*b f) ((Ak P).take (n+1))=S+Au (fun f=>b e*As C e f*b f) ((Ak P).take n)+b e*As C e f*b f:=by rw[E6 hEn,Iu];grind
   obtain⟨y,hy,hfy⟩:=hF.2 n (b f) (by rw[A0v,hEn];rfl);obtain⟨f2,o2,e2,ef2⟩:=Ab.at' (hL.mono le3) (j:=n) (e:=y) hy;cases e2;have hfy:=hfy.mono le3;obtain⟨yb,ya,yn,yc,yb',ya',yn',yc',rfl⟩:=hfy.opn;refine G.a fb fo (P.length+1) cc n 4 hnl ?_;refine G.lU (some 4) fb (fo+n*4) (.agg #[.bool yb,.slice ya yn yc,.bool yb',.slice ya' yn' yc']) ef2 ?_;refine G.c call125 (Sf (hl.mono le3) (hv.mono le3) oV hEi hEn) ?_;intro v4 u4 l4 k4;obtain⟨b4,a4,n4,c4,b4',a4',n4',c4',rfl⟩:=k4.opn;refine G.c call78 (Le ((hfx.mono l3).mono l4) k4 ((hq.b e).mono oV) ((hq.c e f).mono oV)) ?_;intro v5 u5 l5 k5;obtain⟨b5,a5,n5,c5,b5',a5',n5',c5',rfl⟩:=k5.opn;refine G.c call78 (Le k5 (hfy.mono (l4.trans l5)) ((hq.half e f).mono oV) ((hq.b f).mono oV)) ?_;intro v6 u6 l6 k6;obtain⟨b6,a6,n6,c6,b6',a6',n6',c6',rfl⟩:=k6.opn;have l36:=(l4.trans l5).trans l6;refine G.c call76 (O2 (k3.mono l36) k6 ((Ly hout hinn).mono oV) ((hq.term e f).mono oV)) ?_;intro v7 u7 l7 k7;rw[<-hstep2]at k7;obtain⟨b7,a7,n7,c7,b7',a7',n7',c7',rfl⟩:=k7.opn;refine G.i n ?_;exact G.b (hJ2 (n+1,(b7,a7,n7,c7),(b7',a7',n7',c7')) _ _ _ cV (l3.trans (l36.trans l7)) ⟨dV,k7,rfl⟩ dV)
  ·obtain rfl:n=P.length+1:=oV
   refine G.lF ((P.length+1:Nat):Int) ((P.length+1:Nat):Int) ?_;rw[A03 oV,<-hstep]at k3;refine G.i i ?_;exact G.b (hJ (i+1,(tb,ta,tn,tc),(tb',ta',tn',tc')) _ _ _ cV (l2.trans l3) ⟨dV,k3,rfl⟩ dV)
 ·obtain rfl:i=P.length+1:=oV
  refine G.lF ((P.length+1:Nat):Int) ((P.length+1:Nat):Int) ?_;rw[A03 oV]at k2;exact G.r (.agg #[.bool sb,.slice sa sn sc,.bool sb',.slice sa' sn' sc']) ⟨rfl,k2⟩
end
section
variable {C:CF}{N:Nat}{P:List Par}{b:Option Par->Rat}{lv v:Value}{u:PH}
theorem QOK.bs (h:QOK b C)(l:List (Option Par))(hl:l.length<=61):Sz (Au (fun e=>b e*As C none e) l) 200000 :=
 (V7 (Om fun e _=>In (h.b e) (h.c none e)) hl).mono oV
theorem QOK.rs (h:QOK b C)(l:List (Option Par))(hl:l.length<=61):Sz (Au (fun e=>b e*Ay C e) l) 200000 :=
 (V7 (Om fun e _=>h.rt e) hl).mono oV
theorem Apj (hl:Nj u lv P b)(hv:Mf u v C N)(hP:P.length<=60)(hq:QOK b C) :
 Fn0 prog 56 [lv,v] u fun r u'=>Av u' r (Kf b P C):=by
 obtain⟨pa,pc,ca,cc,rfl,hPL,es,hL,hF⟩:=hl.val;have hEl:=Bo P;have hes:es.length=P.length+1:=by rw[hF.1,A0p,hEl]
 obtain⟨b0,a0,n0,c0,b0',a0',n0',c0',g1,g2,rfl,hc⟩:=Ir hv;have hls:Sz (C.s Aq) 1000:=hq.r none;have z1:C.s Aq-0=C.s Aq:=by grind
 refine Fn0.o func56 ?_;refine G.c call96 M4 ?_;rintro v0 u0 l0 rfl;refine G.c call124 (Lx Aq (hv.mono l0)) ?_;intro v1 u1 l1 k1;obtain⟨sb,sa,sn,sc,sb',sa',sn',sc',rfl⟩:=k1.opn;have le1:=l0.trans l1;refine G.l (ι:=Nat×(Bool×SlI)×(Bool×SlI)) (fun i=>[(2,.p 0 0),(3,.p 1 0),(4,.p 2 0),(5,.p 1003 0),(12,sV ca (P.length+1) cc),(13,iV (P.length+1:Nat)),(14,iV i.1)])
  (fun i=>[(0,⟨126,[sV pa P.length pc,sV ca (P.length+1) cc]⟩),(1,⟨120,[bV b0,sV a0 n0 c0,bV b0',sV a0' n0' c0',.v (.map (some g1)),.v (.map (some g2))]⟩),(2,⟨116,[bV false,sV none 0 0,bV false,sV none 0 0]⟩),(1003,⟨116,[bV i.2.1.1,sV i.2.1.2.1 i.2.1.2.2.1 i.2.1.2.2.2,bV i.2.2.1,sV i.2.2.2.1 i.2.2.2.2.1 i.2.2.2.2.2]⟩)])
  (fun i u' m'=>i.1<=P.length+1/\Av u' (.agg #[.bool i.2.1.1,.slice i.2.1.2.1 i.2.1.2.2.1 i.2.1.2.2.2,.bool i.2.2.1,.slice i.2.2.2.1 i.2.2.2.2.1 i.2.2.2.2.2]) (C.s Aq-Au (fun e=>b e*As C none e) ((Ak P).take i.1))/\m'=PH.mt) (fun i=>P.length+1-i.1) (0,(sb,sa,sn,sc),(sb',sa',sn',sc')) ⟨oV,by show Av _ _ (C.s Aq-0);rw[z1];exact k1,rfl⟩ ?_
 rintro J ⟨i,⟨sb,sa,sn,sc⟩,⟨sb',sa',sn',sc'⟩⟩ hJ u2 m2 l2 ⟨hi,k2,rfl⟩;simp only at hi k2 hJ;have le2:=le1.trans l2;by_cases hlt:i<P.length+1
 ·refine G.lT (i:Int) ((P.length+1:Nat):Int) ?_;obtain⟨e,hEi⟩:∃ e,(Ak P)[i]?=some e:=⟨_,A0n oV⟩;have hE0:(Ak P)[0]?=some none:=rfl;have hps:=hq.bs ((Ak P).take i) (by rw[A00];omega);have hbt:Sz (b e*As C none e) 2000:=In (hq.b e) (hq.c none e);have hstep:C.s Aq-Au (fun e=>b e*As C none e) ((Ak P).take (i+1))=C.s Aq-Au (fun e=>b e*As C none e) ((Ak P).take i)-b e*As C none e:=by rw[E6 hEi,Iu];grind
  obtain⟨x,hx,hfx⟩:=hF.2 i (b e) (by rw[A0v,hEi];rfl);obtain⟨fb,fo,rfl,ef⟩:=Ab.at' (hL.mono le2) (j:=i) (e:=x) hx;have hfx:=hfx.mono le2;obtain⟨xb,xa,xn,xc,xb',xa',xn',xc',rfl⟩:=hfx.opn;refine G.a fb fo (P.length+1) cc i 4 hlt ?_;refine G.lU (some 4) fb (fo+i*4) (.agg #[.bool xb,.slice xa xn xc,.bool xb',.slice xa' xn' xc']) ef ?_;refine G.c call125 (Sf (i:=0) (hl.mono le2) (hv.mono le2) oV hE0 hEi) ?_;intro v4 u4 l4 k4;obtain⟨b4,a4,n4,c4,b4',a4',n4',c4',rfl⟩:=k4.opn;refine G.c call78 (Le (hfx.mono l4) k4 ((hq.b e).mono oV) ((hq.c none e).mono oV)) ?_;intro v5 u5 l5 k5;obtain⟨b5,a5,n5,c5,b5',a5',n5',c5',rfl⟩:=k5.opn;refine G.c call57 (Lf (k2.mono (l4.trans l5)) k5 ((Ie hls hps).mono oV) (hbt.mono oV)) ?_;intro v7 u7 l7 k7;rw[<-hstep]at k7;obtain⟨b7,a7,n7,c7,b7',a7',n7',c7',rfl⟩:=k7.opn;refine G.i i ?_;exact G.b (hJ (i+1,(b7,a7,n7,c7),(b7',a7',n7',c7')) _ _ _ cV (((l2.trans l4).trans l5).trans l7) ⟨dV,k7,rfl⟩ dV)
 ·obtain rfl:i=P.length+1:=oV
  refine G.lF ((P.length+1:Nat):Int) ((P.length+1:Nat):Int) ?_;rw[A03 oV]at k2;exact G.r (.agg #[.bool sb,.slice sa sn sc,.bool sb',.slice sa' sn' sc']) ⟨rfl,k2⟩
theorem Agv {q:Rat}{k:Nat}(h:Sz q k):Sz (2*q) (2*k+1):=by
 rw[show 2*q=q+q by grind];exact (Ly h h).mono oV
theorem QOK.nm (h:QOK b C)(hP:P.length<=60):Sz (Bm b P C) 20000000 :=
 h.outer hP (Ak P) (by rw[Bo];omega)
theorem sq0 (hl:Nj u lv P b)(hv:Mf u v C N)(hP:P.length<=60)(hq:QOK b C) :
 Fn0 prog 53 [lv,v] u fun r u'=>Av u' r (sqC b P C):=by
 obtain⟨pa,pc,ca,cc,rfl,hPL,es,hL,hF⟩:=hl.val;have hEl:=Bo P;have hes:es.length=P.length+1:=by rw[hF.1,A0p,hEl]
 obtain⟨b0,a0,n0,c0,b0',a0',n0',c0',g1,g2,rfl,hc⟩:=Ir hv;have hlt2:=hq.l;have hnm:=hq.nm hP;refine Fn0.o func53 ?_;refine G.c call58 (Am3 hl hv hP hq) ?_;intro v1 u1 l1 k1;obtain⟨b1,a1,n1,c1,b1',a1',n1',c1',rfl⟩:=k1.opn;refine G.c call96 M4 ?_;rintro v2 u2 l2 rfl;refine G.c call96 M4 ?_;rintro v3 u3 l3 rfl;have le3:=(l1.trans l2).trans l3;refine G.c call118 (Oc Aq Aq (hv.mono le3)) ?_;intro v4 u4 l4 k4;obtain⟨b4,a4,n4,c4,b4',a4',n4',c4',rfl⟩:=k4.opn;refine G.c call76 (O2 (k1.mono ((l2.trans l3).trans l4)) k4 (hnm.mono oV) (hlt2.mono oV)) ?_;intro v5 u5 l5 k5;have le5:=(le3.trans l4).trans l5;have hA:Sz (Bm b P C+C.t (Ap Aq Aq)) 20001001:=Ly hnm hlt2;have hfin:Bm b P C+C.t (Ap Aq Aq)-2*Au (fun e=>b e*Ay C e) (Ak P)=sqC b P C:=rfl;generalize Bm b P C+C.t (Ap Aq Aq)=A at k5 hA hfin;obtain⟨sb,sa,sn,sc,sb',sa',sn',sc',rfl⟩:=k5.opn;have z1:A-2*0=A:=by grind
 refine G.l (ι:=Nat×(Bool×SlI)×(Bool×SlI)) (fun i=>[(2,.p 0 0),(3,.p 1 0),(4,.p 2 0),(5,.p 1008 0),(18,sV ca (P.length+1) cc),(19,iV (P.length+1:Nat)),(20,iV i.1)])
  (fun i=>[(0,⟨126,[sV pa P.length pc,sV ca (P.length+1) cc]⟩),(1,⟨120,[bV b0,sV a0 n0 c0,bV b0',sV a0' n0' c0',.v (.map (some g1)),.v (.map (some g2))]⟩),(2,⟨116,[bV false,sV none 0 0,bV false,sV none 0 0]⟩),(1008,⟨116,[bV i.2.1.1,sV i.2.1.2.1 i.2.1.2.2.1 i.2.1.2.2.2,bV i.2.2.1,sV i.2.2.2.1 i.2.2.2.2.1 i.2.2.2.2.2]⟩)])
  (fun i u' m'=>i.1<=P.length+1/\Av u' (.agg #[.bool i.2.1.1,.slice i.2.1.2.1 i.2.1.2.2.1 i.2.1.2.2.2,.bool i.2.2.1,.slice i.2.2.2.1 i.2.2.2.2.1 i.2.2.2.2.2]) (A-2*Au (fun e=>b e*Ay C e) ((Ak P).take i.1))/\m'=PH.mt) (fun i=>P.length+1-i.1) (0,(sb,sa,sn,sc),(sb',sa',sn',sc')) ⟨oV,by show Av _ _ (A-2*0);rw[z1];exact k5,rfl⟩ ?_
 rintro J ⟨i,⟨sb,sa,sn,sc⟩,⟨sb',sa',sn',sc'⟩⟩ hJ u6 m6 l6 ⟨hi,k6,rfl⟩;simp only at hi k6 hJ;have le6:=le5.trans l6;by_cases hlt:i<P.length+1
 ·refine G.lT (i:Int) ((P.length+1:Nat):Int) ?_;obtain⟨e,hEi⟩:∃ e,(Ak P)[i]?=some e:=⟨_,A0n oV⟩;have hps:=hq.rs ((Ak P).take i) (by rw[A00];omega);have hbt:=hq.rt e;have hd1:=Ie hA (Agv hps);have hd2:=Ie hd1 hbt;have hstep:A-2*Au (fun e=>b e*Ay C e) ((Ak P).take (i+1))=A-2*Au (fun e=>b e*Ay C e) ((Ak P).take i)-b e*Ay C e-b e*Ay C e:=by rw[E6 hEi,Iu];grind
  obtain⟨x,hx,hfx⟩:=hF.2 i (b e) (by rw[A0v,hEi];rfl);obtain⟨fb,fo,rfl,ef⟩:=Ab.at' (hL.mono le6) (j:=i) (e:=x) hx;have hfx:=hfx.mono le6;obtain⟨xb,xa,xn,xc,xb',xa',xn',xc',rfl⟩:=hfx.opn;refine G.a fb fo (P.length+1) cc i 4 hlt ?_;refine G.lU (some 4) fb (fo+i*4) (.agg #[.bool xb,.slice xa xn xc,.bool xb',.slice xa' xn' xc']) ef ?_;refine G.c call119 (Anu (hl.mono le6) (hv.mono le6) oV hEi) ?_;intro v7 u7 l7 k7;obtain⟨b7,a7,n7,c7,b7',a7',n7',c7',rfl⟩:=k7.opn;refine G.c call78 (Le (hfx.mono l7) k7 ((hq.b e).mono oV) ((hq.r e).mono oV)) ?_;intro v8 u8 l8 k8;obtain⟨b8,a8,n8,c8,b8',a8',n8',c8',rfl⟩:=k8.opn;refine G.c call57 (Lf (k6.mono (l7.trans l8)) k8 (hd1.mono oV) (hbt.mono oV)) ?_;intro v9 u9 l9 k9;obtain⟨b9,a9,n9,c9,b9',a9',n9',c9',rfl⟩:=k9.opn;refine G.c call57 (Lf k9 (k8.mono l9) (hd2.mono oV) (hbt.mono oV)) ?_;intro v10 u10 l10 k10;rw[<-hstep]at k10;obtain⟨bx,ax,nx',cx,bx',ax',nx'',cx',rfl⟩:=k10.opn;refine G.i i ?_;exact G.b (hJ (i+1,(bx,ax,nx',cx),(bx',ax',nx'',cx')) _ _ _ cV ((((l6.trans l7).trans l8).trans l9).trans l10) ⟨dV,k10,rfl⟩ dV)
 ·obtain rfl:i=P.length+1:=oV
  refine G.lF ((P.length+1:Nat):Int) ((P.length+1:Nat):Int) ?_;rw[A03 oV,hfin]at k6;exact G.r (.agg #[.bool sb,.slice sa sn sc,.bool sb',.slice sa' sn' sc']) ⟨rfl,k6⟩
end
section
open Go.RowKit Go.MapKept Go.Shelf Go.Sort
variable {L:List Par}
theorem N8 (L:List Par):Az (L.map An)=L.flatMap Bu:=by
 unfold Az;rw[List.flatMap_map];rfl
theorem D9 (L:List Par):(L.flatMap Bu).length=L.length*2:=by
 induction L with
 |nil=>rfl
 |cons x L ih=>rw[List.flatMap_cons,A0z,ih,J8,A2n,A1o];omega
theorem Wi {L L':List Par}(hl:L'.length=L.length)(rest:List Value):putCells id 0 (flatK Bu 2 L'.toArray) (L.flatMap Bu++rest).toArray=(L'.flatMap Bu++rest).toArray:=by
 have h1:=D9 L;have h2:=D9 L';have hs:(flatK Bu 2 L'.toArray).size=L'.length*2:=by rw[size_flatK];simp
 apply Array.ext_getElem?;intro t;unfold putCells;rw[Array.getElem?_mapIdx,A2x,A2x,hs];by_cases ht:t<L'.length*2
 ·rw[A1d oV,A1d oV,M7 J8 L' t ht];have:(L.flatMap Bu)[t]?=some (L.flatMap Bu)[t]:=A0n oV;rw[this];simp only[A3h,A1m,A2b,true_and,if_pos ht,id,Nat.sub_zero];rw[get_flatK Bu 2 _ t (by simpa using ht)]
 ·rw[A1s oV,A1s oV,h1,h2,hl];cases hr:rest[t-L.length*2]? with
  |none=>rfl
  |some x =>
   simp only[A3h,A1m,A2b,true_and];rw[if_neg oV]
theorem X9 (L:List Par):A3 2 (L.map An):=by
 intro e he;obtain⟨x,_,rfl⟩:=A0u.1 he;exact⟨rfl,fun y hy=>by simp[An,A1e]at hy;rcases hy with rfl|rfl<;>rfl⟩
theorem Ah5 {u m0 m:PH}{v:Value}(hA:Ae m0 m v 79 2 (L.map An))(hnd:L.Nodup)(hl:L.length<=1000000) :
 Ai prog 189 [v,.func (.func 190) #[] #[]] u m fun r u' m'=>r=.tuple #[]/\Ae m0 m' v 79 2 ((Dw A8 L).map An):=by
 have hp:=Gx (c:=A8) L;have hpl:(Dw A8 L).length=L.length:=hp.length_eq;intro w hg;obtain⟨hok,h⟩:=hA;rcases h with ⟨rfl,he,rfl⟩|⟨g,cap,rest,hm0,rfl,rfl,hcap,hlen,hrest⟩
 ·have hL:L = []:=by simpa using he
  subst hL;refine (AnyF.slices_SortFunc_none Tryz.sortPar none 0 _ w).mono ?_;rintro e w' ⟨rfl,rfl⟩;exact⟨_,u,m,rfl,hg,⟨A0w _,fun _ _ _=>rfl,fun _ _=>rfl,fun _ _ h=>h,⟨rfl,rfl⟩,fun f=>f.elim⟩,rfl,by
   have e:Dw A8 ([]:List Par) = []:=List.length_eq_zero_iff.1 hpl;rw[e];exact Ae.nil _ _ _⟩
 ·rw[A0p]at hcap⊢;rw[N8]at hlen hg;have hgb:w.heap[g]?=some (.cells (L.flatMap Bu++rest).toArray 79 (0,0)):=hg.pm g _ (Ac _ _ _);have hH:HoldsK Bu 2 w g 0 L.toArray:=Afx (enc:=Bu) (k:=2) J8 hgb (by
   show (L.flatMap Bu++rest).take (L.length*2)=_;rw[List.take_append_of_le_length (by rw[D9];omega),A03 (by rw[D9];omega)])
  have hgl:g<w.heap.size:=Bw hgb;have hcon:=AnyQ.slices_SortFunc_total Tryz.sortPar 2 (fun w=>kV) (fun w=>kV) Bu (fun _=>rfl) (fun x v hv=>by simp at hv;rcases hv with rfl|rfl<;>rfl) A8 Dp.swo 190 #[] g 0 cap L.toArray w call190 (Abb g 0 _ w) hH hgl gV Dp.tot
  change Calls prog 189 _ _ _ at hcon;simp only[List.size_toArray]at hcon;refine Calls.mono hcon ?_;rintro e w' ⟨rfl,nn,os,rfl⟩;change Alp _ _ _ (sortWorldK Bu 2 w g 0 nn (Dw A8 L).toArray os);obtain⟨w',hw'⟩:∃ w',w'=sortWorldK Bu 2 w g 0 nn (Dw A8 L).toArray os:=⟨_,rfl⟩;have hheap:w'.heap=w.heap.modify g (onCells (putCells id 0 (flatK Bu 2 (Dw A8 L).toArray)))++os:=by rw[hw'];rfl
  have hos:w'.os=w.os/\w'.output=w.output:=by rw[hw'];exact⟨rfl,rfl⟩
  rw[<-hw'];have hsz:w.heap.size<=w'.heap.size:=by rw[hheap,Array.size_append,A8z];omega
  have hold:∀ k,k<w.heap.size->k≠g->w'.heap[k]?=w.heap[k]?:=fun k hk hne=>by
   rw[hheap,A5q (by rw[A8z];exact hk),A70,if_neg (fun e=>hne e.symm)]
  have hnew:w'.heap[g]?=some (.cells ((Dw A8 L).flatMap Bu++rest).toArray 79 (0,0)):=by
   rw[hheap,A5q (by rw[A8z];exact hgl),A70,if_pos rfl,hgb];show some (Obj.cells (putCells id 0 _ _) _ _)=_;rw[Wi hpl]
  have hug:u g=none:=(hg.ap g).resolve_right (by rw[Ac];simp);have hpar:=X9 (Dw A8 L);refine⟨_,fun k=>if k<w.heap.size then u k else w'.heap[k]?,m0.upd g (.cells (Az ((Dw A8 L).map An)++rest).toArray 79 (0,0)),rfl,⟨?_,?_,?_,?_⟩,⟨hsz,?_,?_,?_,hos,fun f=>f.elim⟩,rfl,hpar,.inr ⟨g,cap,rest,hm0,rfl,by rw[A0p,hpl],by rw[A0p,hpl];exact hcap,?_,hrest⟩⟩
  ·intro k o hk;simp only at hk;split at hk
   ·rename_i hlt;have hne:k≠g:=fun e=>by subst e;rw[hug]at hk;cases hk
    rw[hold k hlt hne];exact hg.pu k o hk
   ·exact hk
  ·intro k o hk;by_cases e:k=g
   ·subst e;rw[Ac]at hk;cases hk;rw[hnew,N8]
   ·rw[Ad _ _ e]at hk;have:=hg.pm k o (by rw[Ad _ _ e];exact hk);rw[hold k (Bw this) e];exact this
  ·intro k;simp only;by_cases hlt:k<w.heap.size
   ·rw[if_pos hlt];rcases hg.ap k with h|h
    ·exact .inl h
    ·by_cases e:k=g
     ·subst e;rw[Ac]at h;cases h
     ·right;rw[Ad _ _ e]at h⊢;exact h
   ·right;have e:k≠g:=fun e=>oV
    rw[Ad _ _ e];have:=hg.pm.none (g:=k) (by show w.heap.size<=k;omega);rw[Ad _ _ e]at this;exact this
  ·intro k cs t fr j z hk hj;simp only;by_cases hlt:k<w.heap.size
   ·rw[if_pos hlt];by_cases e:k=g
    ·subst e;rw[hnew]at hk;cases hk;exfalso;have hmem:Value.int .u64 z∈(Dw A8 L).flatMap Bu++rest:=by
      rw[A2x]at hj;exact A1b hj
     have hall:∀ x∈(Dw A8 L).flatMap Bu++rest,Be x=true:=fun x hx=>by
      rcases A01.1 hx with h|h
      ·rw[<-N8]at h;exact Ep hpar x h
      ·exact hrest x h
     have:=hall _ hmem;cases this
    ·rw[hold k hlt e]at hk;exact hg.cl k cs t fr j z hk hj
   ·rw[if_neg hlt];exact hk
  ·intro k hk hmk;refine hold k hk fun e=>?_;subst e;simp only at hmk;rw[Ac]at hmk;cases hmk
  ·intro k hk;simp only;exact if_pos hk
  ·intro k hk hmk;by_cases e:k=g
   ·subst e;simp only at hmk;rw[Ac]at hmk;cases hmk
   ·simp only at hmk;rw[Ad _ _ e]at hmk⊢;exact hmk
  ·rw[N8,A0z,D9,hpl];rw[A0z,D9]at hlen;exact hlen
end
section
variable {F:List Ao}{R:List Bk}{T:List (List UInt8×Nat)}{lab:Int}{n:Nat}{u:PH}{v:Value}
def Aar (F:List Ao)(lab:Int)(p:Par):Prop:=(p.1 = -1/\0<=lab/\p.2 = [])\/(∃ (k:Nat) (f:Ao),p.1=(k:Int)/\F[k]?=some f/\(f.2.1=2\/p.2 = []))
theorem Ahy {p:Par}(hX:F1 u v T R F lab)(ok:Bn u T R F lab)(hp:Aar F lab p) :
 Fn0 prog 187 [v,An p] u fun r _=>r=.bool true:=by
 obtain⟨xa,xc,xb,xd,xe,xf,rfl,hTL,hRL,hFL⟩:=hX;have hf8:=ok.f2;refine Fn0.o func187 ?_;rcases hp with ⟨h1,h2,h3⟩|⟨k,f,h1,hf,h3⟩
 ·refine G.eT' p.1 (-1) h1 ?_;refine G.hT' lab 0 h2 ?_;refine G.q p.2 [] h3 ?_;exact G.r (.bool true) ⟨rfl,rfl⟩
 ·obtain⟨p1,p2⟩:=p;simp only at h1 h3;subst h1;have hk:=(A0s.1 hf).1;obtain⟨bb,ob,rfl,eb⟩:=Ab.at' hFL (j:=k) (e:=B6 f) (by simp[hf]);obtain⟨f1,f2,f3⟩:=f;simp only at h3;refine G.eF (k:Int) (-1) ?_;refine G.hF (k:Int) (F.length:Int) ?_;refine G.a bb ob F.length xf k 3 hk ?_;refine G.f 144 bb (ob+k*3) 1 1 ?_;refine G.lU none bb (ob+k*3+1) (.int .i64 (f2:Int)) (eb.fld (j:=1) (xs:=#[.int .i64 (f1:Int),.int .i64 (f2:Int),.int .i64 (f3:Int)]) rfl rfl) ?_;by_cases h2:f2=2
  ·refine G.eT (f2:Int) 2 ?_;exact G.r (.bool true) ⟨rfl,rfl⟩
  ·refine G.eF (f2:Int) 2 ?_;refine G.q p2 [] (h3.resolve_left h2) ?_;exact G.r (.bool true) ⟨rfl,rfl⟩
theorem Akx {u m:PH}{b:Nat}{x:Par×Rat}(hb:ElP m b 0 v)(hX:F1 u v T R F lab)(ok:Bn u T R F lab)(hp:Aar F lab x.1) :
 FnK prog 186 [A5 x,.pointer (some ⟨b,0,none⟩)] u m fun v _=>v=.bool false:=by
 have hbel:=Ahy hX ok hp;obtain⟨xa,xc,xb,xd,xe,xf,rfl,hTL,hRL,hFL⟩:=hX;refine FnK.of func186 kV kV ?_;refine G.lM (some 4) b 0 (.agg #[.slice xa T.length xc,.slice xb R.length xd,.slice xe F.length xf,.int .i64 lab]) hb ?_;refine G.c call187 hbel ?_;rintro v1 u1 l1 rfl;exact G.r (.bool false) ⟨rfl,rfl⟩
theorem Agw {u m:PH}{v cap:Value}{T:List (Par×Rat)}{fid:Nat}(h:Ab u v 3 (T.map A5))(hl:T.length<=1000000)
 (hcall:∀ args w,(callFunc fid args).run prog w=.ok (.enter fid args) w) (hf:∀ p∈T,∀ u',PH.le u u'->FnK prog fid [A5 p,cap] u' m fun v _=>v=.bool false) :
 FnK prog 241 [v,.func (.func fid) #[] #[cap]] u m fun v' _=>v'=.int .i64 (-1):=by
 obtain⟨a,c,rfl⟩:=h.opn;rw[A0p]at h⊢;refine FnK.of func241 kV kV ?_;refine G.l (ι:=Nat) (fun i=>[(0,sV a T.length c),(1,.v (.func (.func fid) #[] #[cap])),(7,iV T.length),(8,iV i)]) (fun _=>[])
  (fun i u' m'=>i<=T.length/\m'=m) (fun i=>T.length-i) 0 ⟨oV,rfl⟩ ?_
 rintro J i hJ u1 m1 l1 ⟨hi,rfl⟩;by_cases hlt:i<T.length
 ·refine G.lT (i:Int) (T.length:Int) ?_;have hTi:T[i]?=some T[i]:=A0n hlt;obtain⟨ba,oa,rfl,ea⟩:=Ab.at' (h.mono l1) (j:=i) (e:=A5 T[i]) (by simp[hTi]);refine G.a ba oa T.length c i 3 oV ?_;refine G.lU (some 3) ba (oa+i*3) (A5 T[i]) ea ?_;refine G.callK fid [A5 T[i],cap] kV hcall (hf T[i] (A04 hlt) u1 l1) ?_;rintro v2 u2 l2 rfl;refine G.i i ?_;exact G.b (hJ (i+1) _ _ _ cV (l1.trans l2) ⟨oV,rfl⟩ oV)
 ·obtain rfl:i=T.length:=oV
  refine G.lF (T.length:Int) (T.length:Int) ?_;exact G.r (.int .i64 (-1)) ⟨rfl,rfl⟩
theorem Z2 {u m:PH}{v cap:Value}{T:List (Par×Rat)}{fid:Nat}(h:Ab u v 3 (T.map A5))(hl:T.length<=1000000)
 (hcall:∀ args w,(callFunc fid args).run prog w=.ok (.enter fid args) w) (hf:∀ p∈T,∀ u',PH.le u u'->FnK prog fid [A5 p,cap] u' m fun v _=>v=.bool false) :
 FnK prog 185 [v,.func (.func fid) #[] #[cap]] u m fun v' _=>v'=.bool false:=by
 obtain⟨a,c,rfl⟩:=h.opn;refine FnK.of func185 kV kV ?_;refine G.callK _ _ kV call241 (Agw h hl hcall hf) ?_;rintro v1 u1 l1 rfl;refine G.hF (-1) 0 ?_;exact G.r (.bool false) ⟨rfl,rfl⟩
def Cv (F:List Ao)(n:Nat):List Nat:=(A1q n).filter fun i=>(F.getD i (0,0,0)).2.1==1
theorem Ae6 {f:Ao}(hf:F[n]?=some f):Cv F (n+1)=if f.2.1=1 then Cv F n++[n] else Cv F n:=by
 unfold Cv;rw[A6y,Baz];have e:(F.getD n (0,0,0))=f:=by simp[A0o,hf]
 by_cases h:f.2.1=1
 ·rw[if_pos h,A9h (by rw[e];simp[h])];rfl
 ·rw[if_neg h,A9i (by rw[e];simp[h])];simp
theorem Y2 (F:List Ao)(n:Nat):(Cv F n).length<=n:=by
 unfold Cv;exact A0q (A92 _ _) mV
theorem S6 {n i:Nat}:i∈Cv F n↔i<n/\(F.getD i (0,0,0)).2.1=1:=by
 unfold Cv;simp[A6v]
theorem Abx (F:List Ao)(n:Nat):(Cv F n).Nodup:=List.nodup_range.filter _
theorem Yc (hX:F1 u v T R F lab)(ok:Bn u T R F lab) :
 Fn0 prog 188 [v] u fun r u'=>Ab u' r 1 (Ag (Cv F F.length)):=by
 have hck:=Abk hX ok;obtain⟨xa,xc,xb,xd,xe,xf,rfl,hTL,hRL,hFL⟩:=hX;have hf8:=ok.f2;refine Fn0.o func188 ?_;refine G.c call129 hck ?_;rintro v1 u1 l1 rfl;refine G.nF 0 0 ?_;refine G.l (ι:=Nat×(Option Addr×Nat)) (fun i=>[(3,sV i.2.1 (Cv F i.1).length i.2.2),(10,sV xe F.length xf),(11,iV F.length),(12,iV i.1)]) (fun _=>[])
  (fun i u' m'=>i.1<=F.length/\Ae PH.mt m' (.slice i.2.1 (Cv F i.1).length i.2.2) 3 1 (Ag (Cv F i.1))) (fun i=>F.length-i.1) (0,(none,0)) ⟨oV,Ae.nil _ _ _⟩ ?_
 rintro J ⟨i,⟨na,nc⟩⟩ hJ u2 m2 l2 ⟨hi,hA⟩;simp only at hi hA hJ;have le2:=l1.trans l2;have hnl:=Y2 F i;by_cases hlt:i<F.length
 ·refine G.lT (i:Int) (F.length:Int) ?_;obtain⟨f,hFi⟩:∃ f,F[i]?=some f:=⟨_,A0n hlt⟩;have hs:=Ae6 hFi;obtain⟨fb,fo,rfl,ef⟩:=Ab.at' (hFL.mono le2) (j:=i) (e:=B6 f) (by simp[hFi]);obtain⟨p1,p2,p3⟩:=f;simp only at hs;refine G.a fb fo F.length xf i 3 hlt ?_;refine G.lU (some 3) fb (fo+i*3) (.agg #[.int .i64 (p1:Int),.int .i64 (p2:Int),.int .i64 (p3:Int)]) ef ?_;by_cases h1:p2=1
  ·rw[if_pos h1]at hs;refine G.eT (p2:Int) 1 ?_;refine G.buildU 3 1 8 (.int .i64 0) (Ag [i]) kV (Ax [i]) rfl oV (by simp[Ag]) (by simp[Ag]) ?_;intro g3 u3 l3 e3;refine G.append 3 1 8 (.int .i64 0) PH.mt (Ag (Cv F i)) (Ag [i]) (.slice na (Cv F i).length nc) g3 0 1 1 kV rfl rfl oV hA e3 (Ax [i]) rfl oV (by simp[Ag];omega) (by simp[Ag];omega) ?_;intro v4 m4 hA4;have e4:Ag (Cv F i)++Ag [i]=Ag (Cv F (i+1)):=by rw[hs];simp[Ag]
   rw[e4]at hA4;obtain⟨a4,c4,rfl⟩:=hA4.shape;have e5:(Ag (Cv F (i+1))).length=(Cv F (i+1)).length:=by simp[Ag]
   rw[e5]at hA4⊢;refine G.i i ?_;exact G.b (hJ (i+1,(a4,c4)) _ _ _ cV (l2.trans l3) ⟨dV,hA4⟩ dV)
  ·rw[if_neg h1]at hs;refine G.eF (p2:Int) 1 ?_;refine G.i i ?_;rw[<-hs]at hA⊢;exact G.b (hJ (i+1,(na,nc)) _ _ _ cV l2 ⟨dV,hA⟩ dV)
 ·obtain rfl:i=F.length:=oV
  refine G.lF (F.length:Int) (F.length:Int) ?_;refine G.give _ _ _ kV hA (fun g=>.inl rfl) ?_;intro u3 l3 hL;exact G.r (.slice na (Cv F F.length).length nc) ⟨rfl,hL⟩
end
section
open Go.RowKit Go.MapKept Go.Sort
variable {A:List (Par×Rat)}{C:CF}{F:List Ao}
def Mi (F:List Ao)(p:Par):Bool:=decide (0<=p.1)&&(F.getD p.1.toNat (0,0,0)).2.1==2
def G2 (F:List Ao)(A:List (Par×Rat))(n:Nat):List Par:=((A.take n).map (·.1)).filter (Mi F)
theorem Ae5 {n:Nat}{x:Par×Rat}(h:A[n]?=some x):G2 F A (n+1)=if Mi F x.1=true then G2 F A n++[x.1] else G2 F A n:=by
 unfold G2;have e:A.take (n+1)=A.take n++[x]:=by rw[A1c,h];rfl
 rw[e,A07,Baz];by_cases hh:Mi F x.1=true
 ·rw[if_pos hh,A1y,A9h hh];rfl
 ·rw[if_neg hh,A1y,A9i hh];simp
theorem Agt (F:List Ao)(A:List (Par×Rat))(n:Nat):(G2 F A n).length<=A.length:=by
 unfold G2;refine A0q (A92 _ _) ?_;rw[A0p,A00];omega
def Iw (i:Nat):Par:=((i:Int),[])
def Hr (F:List Ao):List Par:=(Cv F F.length).map Iw
theorem Gd (p:Par):A3 2 [An p]:=X9 [p]
theorem Zd (hA:(A.map (·.1)).Nodup):(Hr F++G2 F A A.length).Nodup:=by
 refine A3w.2 ⟨?_,?_,?_⟩
 ·unfold Hr;refine List.Pairwise.map _ (fun a b hne e=>?_) (Abx F F.length);unfold Iw at e;simp only[A1r,and_true]at e;exact hne oV
 ·unfold G2;rw[A1k];exact hA.filter _
 ·intro a ha b hb e;subst e;unfold Hr at ha;obtain⟨i,hi,rfl⟩:=A0u.1 ha;unfold G2 at hb;have h2:=(A6v.1 hb).2;unfold Mi Iw at h2;simp only[A05,beq_iff_eq,decide_eq_true_eq,A22]at h2;have h1:=(S6.1 hi).2;omega
theorem Afc (hA:Can A8 C.s A){p:Par}:p∈Hr F++G2 F A A.length↔(∃ (i:Nat) (f:Ao),p=Iw i/\F[i]?=some f/\f.2.1=1)\/(C.s p≠0/\∃ (i:Nat) (f:Ao),p.1=(i:Int)/\F[i]?=some f/\f.2.1=2):=by
 have hmem:p∈A.map (·.1)↔C.s p≠0:=by
  constructor
  ·intro h;obtain⟨x,hx,rfl⟩:=A0u.1 h;obtain⟨h1,h2⟩:=hA.val x hx;rw[<-h1];exact h2
  ·intro h;exact A44 fun hh=>h (hA.out p hh)
 rw[A01];refine or_congr ?_ ?_
 ·unfold Hr;rw[A0u];constructor
  ·rintro⟨i,hi,rfl⟩;obtain⟨h1,h2⟩:=S6.1 hi;refine⟨i,F[i],rfl,A0n h1,?_⟩;rw[A0o,A0n h1,A2y]at h2;exact h2
  ·rintro⟨i,f,rfl,hf,h1⟩;refine⟨i,S6.2 ⟨(A0s.1 hf).1,?_⟩,rfl⟩;rw[A0o,hf,A2y];exact h1
 ·unfold G2;rw[A1k,A6v,hmem];refine and_congr Iff.rfl ?_;unfold Mi;simp only[A05,beq_iff_eq,decide_eq_true_eq];constructor
  ·rintro⟨h1,h2⟩;have hlt:p.1.toNat<F.length:=by
    rcases A11 p.1.toNat F.length with h|h
    ·exact h
    ·rw[A0o,List.getElem?_eq_none h]at h2;simp at h2
   rw[A0o,A0n hlt,A2y]at h2;exact⟨p.1.toNat,F[p.1.toNat],oV,A0n hlt,h2⟩
  ·rintro⟨i,f,h1,hf,h2⟩;refine⟨oV,?_⟩;rw[h1,A22,A0o,hf,A2y];exact h2
abbrev R1 (F:List Ao)(C:CF)(L:List Par):Prop :=
 Ef A8 L/\∀ p,p∈L↔(∃ (i:Nat) (f:Ao),p=Iw i/\F[i]?=some f/\f.2.1=1)\/(C.s p≠0/\∃ (i:Nat) (f:Ao),p.1=(i:Int)/\F[i]?=some f/\f.2.1=2)
theorem R1.eq {L L':List Par}(h:R1 F C L)(h':R1 F C L'):L=L' :=
 Ys Dp h.1 h'.1 fun p=>(h.2 p).trans (h'.2 p).symm
def Anx (u:PH)(r:Value)(F:List Ao)(C:CF):Prop :=
 (r=.tuple #[.slice none 0 0,.int .i64 3]/\∃ L,24<L.length/\R1 F C L)\/∃ (ps:Value) (L:List Par),r=.tuple #[ps,.int .i64 0]/\Ab u ps 2 (L.map An)/\L.length<=24/\R1 F C L
theorem Aba {u:PH}{v w:Value}{T:List (List UInt8×Nat)}{R:List Bk}{lab:Int}{K:Nat}(hX:F1 u v T R F lab)(ok:Bn u T R F lab)(hC:H7 u w C K)(sC:CFS C)(vC:CFV C)(hK:K<=100000)(hb:∀ p,C.s p≠0->Aar F lab p) :
 Fn0 prog 114 [v,w] u fun r u'=>Anx u' r F C:=by
 have hck:=fun (u':PH) (l:PH.le u u')=>Abk (hX.mono l) (ok.mono l);have hvd:=fun (u':PH) (l:PH.le u u')=>Ah4 (hC.mono l) sC vC oV;obtain⟨xa,xc,xb,xd,xe,xf,rfl,hTL,hRL,hFL⟩:=id hX;obtain⟨A,Q,a1,c1,a2,c2,rfl,hA,hQ,cA,cQ,kA,kQ⟩:=hC;have hf8:=ok.f2;refine Fn0.o func114 ?_;refine G.c call129 (hck u (PH.le_refl _)) ?_;rintro v1 u1 l1 rfl;refine G.nF 0 0 ?_;refine G.c call184 (hvd u1 l1) ?_;rintro v2 u2 l2 rfl;have le2:=l1.trans l2;refine G.pub 0 31 [.slice xa T.length xc,.slice xb R.length xd,.slice xe F.length xf,.int .i64 lab] kV kV ?_;intro b hb1 hb2;have hcb:∀ (m':PH),m' b=some (.cells [A06 xa T.length xc,.slice xb R.length xd,.slice xe F.length xf,.int .i64 lab].toArray 31 (0,0))->ElP m' b 0 (.agg #[.slice xa T.length xc,.slice xb R.length xd,.slice xe F.length xf,.int .i64 lab]):=fun m' h=>Aa3 (xs:=[.slice xa T.length xc,.slice xb R.length xd,.slice xe F.length xf,.int .i64 lab]) h rfl;obtain⟨mb,hmb⟩:∃ mb:PH,mb=PH.mt.upd b (.cells [A06 xa T.length xc,.slice xb R.length xd,.slice xe F.length xf,.int .i64 lab].toArray 31 (0,0)):=⟨_,rfl⟩;have hmbb:mb b=some (.cells [A06 xa T.length xc,.slice xb R.length xd,.slice xe F.length xf,.int .i64 lab].toArray 31 (0,0)):=by rw[hmb];exact Ac _ _ _
 rw[<-hmb];refine G.callK _ _ kV call185 (Z2 (cap:=.pointer (some ⟨b,0,none⟩)) (hA.mono le2) oV call186 fun x hx u' l'=>Akx (hcb mb hmbb) (hX.mono (le2.trans l')) (ok.mono (le2.trans l')) (hb x.1 (by obtain⟨q1,q2⟩:=cA.val x hx;rw[<-q1];exact q2))) ?_;rintro v3 u3 l3 rfl;have le3:=le2.trans l3;refine G.lM (some 4) b 0 (.agg #[.slice xa T.length xc,.slice xb R.length xd,.slice xe F.length xf,.int .i64 lab]) (hcb mb hmbb) ?_;refine G.c call188 (Yc (hX.mono le3) (ok.mono le3)) ?_;intro v4 u4 l4 hN;obtain⟨na,nc,rfl⟩:=hN.opn;have hni:(Ag (Cv F F.length)).length=(Cv F F.length).length:=by simp[Ag]
 rw[hni]at hN⊢;have hnl:=Y2 F F.length;have le4:=le3.trans l4;refine G.l (ι:=Nat×(Option Addr×Nat)) (fun i=>[(2,.v (.pointer (some ⟨b,0,none⟩))),(3,.p 1 0),(6,sV i.2.1 ((Cv F F.length).take i.1).length i.2.2),(28,sV na (Cv F F.length).length nc),(29,iV ((Cv F F.length).length)),(30,iV i.1)])
  (fun _=>[(1,⟨37,[tV (Af C.c),sV a1 A.length c1,sV a2 Q.length c2]⟩)])
  (fun i u' m'=>i.1<=(Cv F F.length).length/\Ae mb m' (.slice i.2.1 ((Cv F F.length).take i.1).length i.2.2) 79 2 ((((Cv F F.length).take i.1).map Iw).map An)) (fun i=>(Cv F F.length).length-i.1) (0,(none,0)) ⟨oV,Ae.nil _ _ _⟩ ?_
 rintro J ⟨i,⟨pa,pc⟩⟩ hJ u5 m5 l5 ⟨hi,hP⟩;simp only at hi hP hJ;have le5:=le4.trans l5;by_cases hlt:i<(Cv F F.length).length
 ·refine G.lT (i:Int) ((Cv F F.length).length:Int) ?_;obtain⟨k,hk⟩:∃ k,(Cv F F.length)[i]?=some k:=⟨_,A0n hlt⟩;have htk:(Cv F F.length).take (i+1)=(Cv F F.length).take i++[k]:=by rw[A1c,hk];rfl
  obtain⟨bb,ob,rfl,eb⟩:=Ab.at' (hN.mono l5) (j:=i) (e:=.int .i64 (k:Int)) (by simp[Ag,hk]);have htl:((Cv F F.length).take i).length=i:=by rw[A00];omega
  refine G.a bb ob (Cv F F.length).length nc i 1 hlt ?_;refine G.lU none bb (ob+i*1) (.int .i64 (k:Int)) eb ?_;refine G.B 79 2 24 (.agg #[.int .i64 0,.string (mkS [])]) [.agg #[.int .i64 (k:Int),.string (mkS [])]] (Gd (Iw k)) ?_;intro g6 u6 l6 e6;refine G.k 79 2 24 (.agg #[.int .i64 0,.string (mkS [])]) mb _ [An (Iw k)] _ g6 0 1 1 hP e6 (Gd (Iw k)) ?_;intro v7 m7 hA7;have e7:(((Cv F F.length).take i).map Iw).map An++[An (Iw k)]=(((Cv F F.length).take (i+1)).map Iw).map An:=by rw[htk];simp
  rw[e7]at hA7;obtain⟨a7,c7,rfl⟩:=hA7.shape;rw[A0p,A0p]at hA7⊢;refine G.i i ?_;exact G.b (hJ (i+1,(a7,c7)) _ _ _ cV (l5.trans l6) ⟨dV,hA7⟩ dV)
 obtain rfl:i=(Cv F F.length).length:=oV
 refine G.lF ((Cv F F.length).length:Int) ((Cv F F.length).length:Int) ?_;clear hJ;rw[A1k]at hP⊢;have hP0:Ae mb m5 (.slice pa (Hr F++G2 F A 0).length pc) 79 2 ((Hr F++G2 F A 0).map An):=by
  have e1:G2 F A 0 = []:=rfl;have e2:(Hr F).length=(Cv F F.length).length:=by unfold Hr;simp
  rw[e1,A1i,e2];exact hP
 have e0:(Cv F F.length).length=(Hr F++G2 F A 0).length:=by
  have e1:G2 F A 0 = []:=rfl;have e2:(Hr F).length=(Cv F F.length).length:=by unfold Hr;simp
  rw[e1,A1i,e2]
 rw[e0];have hnp:(Hr F).length<=8:=by unfold Hr;rw[A0p];omega
 refine G.l (ι:=Nat×(Option Addr×Nat)) (fun i=>[(2,.v (.pointer (some ⟨b,0,none⟩))),(6,sV i.2.1 (Hr F++G2 F A i.1).length i.2.2),(41,sV a1 A.length c1),(42,iV A.length),(43,iV i.1)]) (fun _=>[])
  (fun i u' m'=>i.1<=A.length/\Ae mb m' (.slice i.2.1 (Hr F++G2 F A i.1).length i.2.2) 79 2 ((Hr F++G2 F A i.1).map An)) (fun i=>A.length-i.1) (0,(pa,pc)) ⟨oV,hP0⟩ ?_
 clear hP hP0 e0;rintro J ⟨i,⟨pa,pc⟩⟩ hJ u6 m6 l6 ⟨hi,hP⟩;simp only at hi hP hJ;have le6:=le5.trans l6;have hhl:=Agt F A i;by_cases hlt:i<A.length
 ·refine G.lT (i:Int) (A.length:Int) ?_;obtain⟨x,hAi⟩:∃ x,A[i]?=some x:=⟨_,A0n hlt⟩;have hs:=Ae5 (F:=F) hAi;have hbel:Aar F lab x.1:=hb x.1 (by obtain⟨q1,q2⟩:=cA.val x (A1b hAi);rw[<-q1];exact q2);obtain⟨ba,oa,rfl,ea⟩:=Ab.at' (hA.mono le6) (j:=i) (e:=A5 x) (by simp[hAi]);obtain⟨⟨p1,p2⟩,q⟩:=x;simp only at hs hbel;refine G.a ba oa A.length c1 i 3 hlt ?_;refine G.lU (some 3) ba (oa+i*3) (.agg #[.int .i64 p1,.string (mkS p2),.string (mkS (Af q))]) ea ?_;have step:∀ {u7:PH},PH.le u6 u7->Mi F (p1,p2)=false->True:=fun _ _=>trivial;by_cases h0:0<=p1
  ·refine G.hT' p1 0 h0 ?_;obtain⟨k,f,hk1,hkf⟩:∃ (k:Nat) (f:Ao),p1=(k:Int)/\F[k]?=some f:=by
    rcases hbel with ⟨h1,_⟩|⟨k,f,h1,hf,_⟩
    ·simp only at h1;omega
    ·exact⟨k,f,h1,hf⟩
   subst hk1;have hkl:=(A0s.1 hkf).1;have hmb6:m6 b=some (.cells [A06 xa T.length xc,.slice xb R.length xd,.slice xe F.length xf,.int .i64 lab].toArray 31 (0,0)):=hP.see hmbb;refine G.f 31 b 0 2 2 ?_;refine G.lM none b (0+2) (.slice xe F.length xf) ((hcb m6 hmb6).fld (j:=2) (xs:=#[.slice xa T.length xc,.slice xb R.length xd,.slice xe F.length xf,.int .i64 lab]) rfl rfl) ?_;obtain⟨fb,fo,rfl,ef⟩:=Ab.at' (hFL.mono le6) (j:=k) (e:=B6 f) (by simp[hkf]);refine G.a fb fo F.length xf k 3 hkl ?_;obtain⟨f1,f2,f3⟩:=f;refine G.f 144 fb (fo+k*3) 1 1 ?_;refine G.lU none fb (fo+k*3+1) (.int .i64 (f2:Int)) (ef.fld (j:=1) (xs:=#[.int .i64 (f1:Int),.int .i64 (f2:Int),.int .i64 (f3:Int)]) rfl rfl) ?_;have hot:Mi F ((k:Int),p2)=(f2==2):=by
    unfold Mi;simp only[A22,A0o,hkf,A2y];rw[decide_eq_true oV];rfl
   rw[hot]at hs;by_cases h2:f2=2
   ·rw[if_pos (by simpa using h2)]at hs;refine G.eT (f2:Int) 2 ?_;refine G.B 79 2 24 (.agg #[.int .i64 0,.string (mkS [])]) [.agg #[.int .i64 (k:Int),.string (mkS p2)]] (Gd ((k:Int),p2)) ?_;intro g7 u7 l7 e7;refine G.k 79 2 24 (.agg #[.int .i64 0,.string (mkS [])]) mb _ [An ((k:Int),p2)] _ g7 0 1 1 hP e7 (Gd ((k:Int),p2)) ?_;intro v8 m8 hA8;have e8:(Hr F++G2 F A i).map An++[An ((k:Int),p2)]=(Hr F++G2 F A (i+1)).map An:=by rw[hs];simp
    rw[e8]at hA8;obtain⟨a8,c8,rfl⟩:=hA8.shape;rw[A0p]at hA8⊢;refine G.i i ?_;exact G.b (hJ (i+1,(a8,c8)) _ _ _ cV (l6.trans l7) ⟨dV,hA8⟩ dV)
   ·rw[if_neg (by simpa using h2)]at hs;refine G.eF (f2:Int) 2 ?_;refine G.i i ?_;rw[<-hs]at hP⊢;exact G.b (hJ (i+1,(pa,pc)) _ _ _ cV l6 ⟨dV,hP⟩ dV)
  ·refine G.hF' p1 0 h0 ?_;have hot:Mi F (p1,p2)=false:=by
    unfold Mi;rw[decide_eq_false h0];rfl
   rw[hot,if_neg mV]at hs;refine G.i i ?_;rw[<-hs]at hP⊢;exact G.b (hJ (i+1,(pa,pc)) _ _ _ cV l6 ⟨dV,hP⟩ dV)
 obtain rfl:i=A.length:=oV
 refine G.lF (A.length:Int) (A.length:Int) ?_;clear hJ;have hnd:(Hr F++G2 F A A.length).Nodup:=Zd (cA.srt.nodup Dp);have hmm:∀ p,p∈Hr F++G2 F A A.length↔_:=fun p=>Afc (F:=F) cA (p:=p);have hll:(Hr F++G2 F A A.length).length<=1000000:=by rw[A0z];omega
 generalize Hr F++G2 F A A.length=L at hP hnd hmm hll;by_cases h24:24<L.length
 ·refine G.gT (L.length:Int) 24 ?_;refine G.drop PH.mt kV (PH.mt_le _) ?_;exact G.r (.tuple #[.slice none 0 0,.int .i64 3]) ⟨rfl,.inl ⟨rfl,Dw A8 L,by rw[(Gx (c:=A8) L).length_eq];exact h24,P6 Dp hnd,fun p=>(Gx (c:=A8) L).mem_iff.trans (hmm p)⟩⟩
 ·refine G.gF (L.length:Int) 24 ?_;refine G.callA _ _ kV kV call189 (C2 m6).symm (Sj m6) (Ah5 hP hnd hll) ?_;rintro v7 u7 m7 l7 ⟨rfl,hS⟩ _;rw[C2];have hp:=Gx (c:=A8) L;have hsl:(Dw A8 L).length=L.length:=hp.length_eq;refine G.give _ _ _ kV hS (fun g=>.inl rfl) ?_;intro u8 l8 hL8;refine G.drop PH.mt kV (PH.mt_le _) ?_;exact G.r (.tuple #[.slice pa L.length pc,.int .i64 0]) ⟨rfl,.inr ⟨_,Dw A8 L,rfl,hL8,oV,P6 Dp hnd,fun p=>hp.mem_iff.trans (hmm p)⟩⟩
end
section
variable {A:List (Par×Rat)}{C:CF}{F:List Ao}{i n:Nat}{p:Par}
def Ff (F:List Ao)(A:List (Par×Rat))(i:Nat):List Par:=if (F.getD i (0,0,0)).2.1=1 then [Iw i] else (A.map (·.1)).filter fun p=>p.1==(i:Int)
def Fc (F:List Ao)(A:List (Par×Rat))(n:Nat):List Par:=(A1q n).flatMap (Ff F A)
theorem Pa (F:List Ao)(A:List (Par×Rat))(n:Nat):Fc F A (n+1)=Fc F A n++Ff F A n:=by
 unfold Fc;rw[A6y,List.flatMap_append];simp
theorem Pj (h:p∈Ff F A i):p.1=(i:Int):=by
 unfold Ff at h;split at h
 ·simp at h;subst h;rfl
 ·have:=(A6v.1 h).2;simpa using this
theorem Ah8 (h:p∈Fc F A n):0<=p.1/\p.1<(n:Int):=by
 unfold Fc at h;obtain⟨i,hi,hp⟩:=A7s.1 h;have:=Pj hp;simp at hi;omega
theorem Aiv {p q:Par}(h:p.1<q.1):A8 p q<0:=by
 unfold A8 Na;rw[if_pos h,if_pos oV];omega
theorem Vc {F:List Ao}{A:List (Par×Rat)}(hA:Ef A8 (A.map (·.1))):∀ n,Ef A8 (Fc F A n)
 |0=>List.Pairwise.nil
 |n+1=>by
  rw[Pa];refine A3a.2 ⟨Vc hA n,?_,fun p hp q hq=>?_⟩
  ·unfold Ff;split
   ·exact List.pairwise_singleton _ _
   ·exact hA.filter _
  ·have h1:=Ah8 hp;have h2:=Pj hq;exact Aiv oV
theorem Ah0 (hA:Can A8 C.s A)(hk:∀ f∈F,f.2.1=1\/f.2.1=2):p∈Fc F A F.length↔(∃ (i:Nat) (f:Ao),p=Iw i/\F[i]?=some f/\f.2.1=1)\/(C.s p≠0/\∃ (i:Nat) (f:Ao),p.1=(i:Int)/\F[i]?=some f/\f.2.1=2):=by
 have hmem:p∈A.map (·.1)↔C.s p≠0:=by
  constructor
  ·intro h;obtain⟨x,hx,rfl⟩:=A0u.1 h;obtain⟨h1,h2⟩:=hA.val x hx;rw[<-h1];exact h2
  ·intro h;exact A44 fun hh=>h (hA.out p hh)
 unfold Fc;rw[A7s];constructor
 ·rintro⟨i,hi,hp⟩;have hil:i<F.length:=by simpa using hi
  have hFi:F[i]?=some F[i]:=A0n hil;have e:F.getD i (0,0,0)=F[i]:=by simp[A0o,hFi]
  have h1:=Pj hp;unfold Ff at hp;rw[e]at hp;split at hp
  ·rename_i h;simp at hp;exact .inl ⟨i,F[i],hp,hFi,h⟩
  ·rename_i h;exact .inr ⟨hmem.1 (A6v.1 hp).1,i,F[i],h1,hFi,(hk _ (A04 hil)).resolve_left h⟩
 ·rintro (⟨i,f,rfl,hf,h1⟩|⟨h0,i,f,h1,hf,h2⟩)
  ·have e:F.getD i (0,0,0)=f:=by simp[A0o,hf]
   refine⟨i,by simpa using (A0s.1 hf).1,?_⟩;unfold Ff;rw[e,if_pos h1];simp
  ·have e:F.getD i (0,0,0)=f:=by simp[A0o,hf]
   refine⟨i,by simpa using (A0s.1 hf).1,?_⟩;unfold Ff;rw[e,if_neg oV];exact A6v.2 ⟨hmem.2 h0,by simpa using h1⟩
theorem Aj2 (n:Nat):(Fc F A n).length<=n*(A.length+1):=by
 induction n with
 |zero=>exact A1m _
 |succ n ih =>
  rw[Pa,A0z,A1o,A3d];have:(Ff F A n).length<=A.length+1:=by
   unfold Ff;split
   ·simp
   ·refine A0q (A92 _ _) ?_;rw[A0p];omega
  omega
def Fj (A:List (Par×Rat))(i n:Nat):List Par:=((A.take n).map (·.1)).filter fun p=>p.1==(i:Int)
theorem Ace {x:Par×Rat}(h:A[n]?=some x):Fj A i (n+1)=if x.1.1=(i:Int) then Fj A i n++[x.1] else Fj A i n:=by
 unfold Fj;have e:A.take (n+1)=A.take n++[x]:=by rw[A1c,h];rfl
 rw[e,A07,Baz];by_cases hh:x.1.1=(i:Int)
 ·rw[if_pos hh,A1y,A9h (by simpa using hh)];rfl
 ·rw[if_neg hh,A1y,A9i (by simpa using hh)];simp
theorem Af4 (A:List (Par×Rat))(i n:Nat):(Fj A i n).length<=A.length:=by
 unfold Fj;refine A0q (A92 _ _) ?_;rw[A0p,A00];omega
theorem Sa {u:PH}{v w:Value}{T:List (List UInt8×Nat)}{R:List Bk}{lab:Int}{K:Nat}(hX:F1 u v T R F lab)(ok:Bn u T R F lab)(hC:H7 u w C K)(sC:CFS C)(vC:CFV C)(hK:K<=10000)(hb:∀ p,C.s p≠0->Aar F lab p) :
 Fn0 prog 24 [v,w] u fun r u'=>Anx u' r F C:=by
 have hck:=fun (u':PH) (l:PH.le u u')=>Pf (hX.mono l) (ok.mono l);have hvd:=fun (u':PH) (l:PH.le u u')=>Aaz (hC.mono l) sC vC oV;have hkd:∀ f∈F,f.2.1=1\/f.2.1=2:=fun f hf=>by
  obtain⟨n,k,_,h2,_⟩:=ok.feat.ok f hf;rcases h2 with ⟨h2,_⟩|⟨h2,_⟩
  ·exact .inl h2
  ·exact .inr h2
 obtain⟨xa,xc,xb,xd,xe,xf,rfl,hTL,hRL,hFL⟩:=id hX;obtain⟨A,Q,a1,c1,a2,c2,rfl,hA,hQ,cA,cQ,kA,kQ⟩:=hC;have hf8:=ok.f2;have hRl:∀ n,n<=8->(Fc F A n).length<=100000:=fun n hn=>by
  have:=Aj2 (F:=F) (A:=A) n;have h2:n*(A.length+1)<=8*(A.length+1):=A12 _ hn;omega
 refine Fn0.o func24 ?_;refine G.c call62 (hck u (PH.le_refl _)) ?_;rintro v1 u1 l1 rfl;refine G.nF 0 0 ?_;refine G.c call71 (hvd u1 l1) ?_;rintro v2 u2 l2 rfl;have le2:=l1.trans l2;refine G.l (ι:=Nat×(Option Addr×Nat)) (fun i=>[(2,.p 0 0),(3,.p 1 0),(7,sV i.2.1 (Fc F A i.1).length i.2.2),(26,sV xe F.length xf),(27,iV F.length),(28,iV i.1)])
  (fun _=>[(0,⟨31,[sV xa T.length xc,sV xb R.length xd,sV xe F.length xf,iV lab]⟩),(1,⟨37,[tV (Af C.c),sV a1 A.length c1,sV a2 Q.length c2]⟩)])
  (fun i u' m'=>i.1<=F.length/\Ae PH.mt m' (.slice i.2.1 (Fc F A i.1).length i.2.2) 79 2 ((Fc F A i.1).map An)) (fun i=>F.length-i.1) (0,(none,0)) ⟨oV,Ae.nil _ _ _⟩ ?_
 rintro J ⟨i,⟨pa,pc⟩⟩ hJ u3 m3 l3 ⟨hi,hP⟩;simp only at hi hP hJ;have le3:=le2.trans l3;have hln:=hRl i oV;by_cases hlt:i<F.length
 ·refine G.lT (i:Int) (F.length:Int) ?_;obtain⟨f,hFi⟩:∃ f,F[i]?=some f:=⟨_,A0n hlt⟩;have hgd:F.getD i (0,0,0)=f:=by simp[A0o,hFi]
  have hs:=Pa F A i;obtain⟨fb,fo,rfl,ef⟩:=Ab.at' (hFL.mono le3) (j:=i) (e:=B6 f) (by simp[hFi]);obtain⟨f1,f2,f3⟩:=f;refine G.a fb fo F.length xf i 3 hlt ?_;refine G.lU (some 3) fb (fo+i*3) (.agg #[.int .i64 (f1:Int),.int .i64 (f2:Int),.int .i64 (f3:Int)]) ef ?_;by_cases hk1:f2=1
  ·have hp:Ff F A i = [Iw i]:=by unfold Ff;rw[hgd,if_pos hk1]
   rw[hp]at hs;refine G.eT (f2:Int) 1 ?_;refine G.B 79 2 24 (.agg #[.int .i64 0,.string (mkS [])]) [.agg #[.int .i64 (i:Int),.string (mkS [])]] (Gd (Iw i)) ?_;intro g6 u6 l6 e6;refine G.k 79 2 24 (.agg #[.int .i64 0,.string (mkS [])]) PH.mt ((Fc F A i).map An) [An (Iw i)] _ g6 0 1 1 hP e6 (Gd (Iw i)) ?_;intro v7 m7 hA7;rw[show (Fc F A i).map An++[An (Iw i)]=(Fc F A (i+1)).map An by rw[hs];simp]at hA7;obtain⟨a7,c7,rfl⟩:=hA7.shape;rw[A0p]at hA7⊢;refine G.i i ?_;exact G.b (hJ (i+1,(a7,c7)) _ _ _ cV (l3.trans l6) ⟨dV,hA7⟩ dV)
  ·have hp:Ff F A i=Fj A i A.length:=by unfold Ff Fj;rw[hgd,if_neg hk1,A1k]
   rw[hp]at hs;refine G.eF (f2:Int) 1 ?_;have hP0:Ae PH.mt m3 (.slice pa (Fc F A i++Fj A i 0).length pc) 79 2 ((Fc F A i++Fj A i 0).map An):=by
    rw[show Fj A i 0 = [] from rfl,A1i];exact hP
   have e0:(Fc F A i).length=(Fc F A i++Fj A i 0).length:=by rw[show Fj A i 0 = [] from rfl,A1i]
   rw[e0];refine G.l (ι:=Nat×(Option Addr×Nat)) (fun n=>[(2,.p 0 0),(3,.p 1 0),(7,sV n.2.1 (Fc F A i++Fj A i n.1).length n.2.2),(8,iV i),(26,sV (some ⟨fb,fo,none⟩) F.length xf),(27,iV F.length),(28,iV i),(42,sV a1 A.length c1),(43,iV A.length),(44,iV n.1)])
    (fun _=>[(0,⟨31,[sV xa T.length xc,sV xb R.length xd,sV (some ⟨fb,fo,none⟩) F.length xf,iV lab]⟩),(1,⟨37,[tV (Af C.c),sV a1 A.length c1,sV a2 Q.length c2]⟩)])
    (fun n u' m'=>n.1<=A.length/\Ae PH.mt m' (.slice n.2.1 (Fc F A i++Fj A i n.1).length n.2.2) 79 2 ((Fc F A i++Fj A i n.1).map An)) (fun n=>A.length-n.1) (0,(pa,pc)) ⟨oV,hP0⟩ ?_
   clear hP hP0 e0;rintro J2 ⟨n,⟨pa,pc⟩⟩ hJ2 u4 m4 l4 ⟨hn,hP⟩;simp only at hn hP hJ2;have hpl:=Af4 A i n;by_cases hnl:n<A.length
   ·refine G.lT (n:Int) (A.length:Int) ?_;obtain⟨x,hAn⟩:∃ x,A[n]?=some x:=⟨_,A0n hnl⟩;have hps:=Ace (i:=i) hAn;obtain⟨ba,oa,rfl,ea⟩:=Ab.at' (hA.mono (le3.trans l4)) (j:=n) (e:=A5 x) (by simp[hAn]);obtain⟨⟨p1,p2⟩,q⟩:=x;simp only at hps;refine G.a ba oa A.length c1 n 3 hnl ?_;refine G.lU (some 3) ba (oa+n*3) (.agg #[.int .i64 p1,.string (mkS p2),.string (mkS (Af q))]) ea ?_;by_cases he:p1=(i:Int)
    ·rw[if_pos he]at hps;refine G.eT' p1 (i:Int) he ?_;refine G.B 79 2 24 (.agg #[.int .i64 0,.string (mkS [])]) [.agg #[.int .i64 p1,.string (mkS p2)]] (Gd (p1,p2)) ?_;intro g6 u6 l6 e6;refine G.k 79 2 24 (.agg #[.int .i64 0,.string (mkS [])]) PH.mt ((Fc F A i++Fj A i n).map An) [An (p1,p2)] _ g6 0 1 1 hP e6 (Gd (p1,p2)) ?_;intro v7 m7 hA7;rw[show (Fc F A i++Fj A i n).map An++[An (p1,p2)]=(Fc F A i++Fj A i (n+1)).map An by rw[hps];simp]at hA7;obtain⟨a7,c7,rfl⟩:=hA7.shape;rw[A0p]at hA7⊢;refine G.i n ?_;exact G.b (hJ2 (n+1,(a7,c7)) _ _ _ cV (l4.trans l6) ⟨dV,hA7⟩ dV)
    ·rw[if_neg he]at hps;refine G.eF' p1 (i:Int) he ?_;refine G.i n ?_;rw[<-hps]at hP⊢;exact G.b (hJ2 (n+1,(pa,pc)) _ _ _ cV l4 ⟨dV,hP⟩ dV)
   ·obtain rfl:n=A.length:=oV
    refine G.lF (A.length:Int) (A.length:Int) ?_;refine G.i i ?_;rw[<-hs]at hP⊢;exact G.b (hJ (i+1,(pa,pc)) _ _ _ cV (l3.trans l4) ⟨dV,hP⟩ dV)
 obtain rfl:i=F.length:=oV
 refine G.lF (F.length:Int) (F.length:Int) ?_;clear hJ;have hmm:∀ p,p∈Fc F A F.length↔_:=fun p=>Ah0 (F:=F) cA hkd (p:=p);have hsrt:Ef A8 (Fc F A F.length):=Vc cA.srt _;generalize hLL:Fc F A F.length=L at hP hmm hsrt hln;have hin:∀ x∈A,(x.1.1 = -1/\0<=lab/\x.1.2 = [])\/(0<=x.1.1/\x.1∈L):=fun x hx=>by
  obtain⟨q1,q2⟩:=cA.val x hx;have hne:C.s x.1≠0:=by rw[<-q1];exact q2
  rcases hb x.1 hne with h|⟨k,f,h1,hf,h3⟩
  ·exact .inl h
  ·refine .inr ⟨oV,(hmm x.1).2 ?_⟩;rcases hkd f (A1b hf) with h4|h4
   ·refine .inl ⟨k,f,?_,hf,h4⟩;obtain⟨⟨p1,p2⟩,q⟩:=x;simp only at h1 h3;rw[h1,h3.resolve_left oV];rfl
   ·exact .inr ⟨hne,k,f,h1,hf,h4⟩
 refine G.l (ι:=Nat) (fun i=>[(2,.p 0 0),(7,sV pa L.length pc),(61,sV a1 A.length c1),(62,iV A.length),(63,iV i)])
  (fun _=>[(0,⟨31,[sV xa T.length xc,sV xb R.length xd,sV xe F.length xf,iV lab]⟩)])
  (fun i u' m'=>i<=A.length/\m'=m3) (fun i=>A.length-i) 0 ⟨oV,rfl⟩ ?_
 rintro J i hJ u4 m4 l4 ⟨hi4,rfl⟩;have le4:=le3.trans l4;by_cases hlt4:i<A.length
 ·refine G.lT (i:Int) (A.length:Int) ?_;obtain⟨x,hAi⟩:∃ x,A[i]?=some x:=⟨_,A0n hlt4⟩;have hx:=hin x (A1b hAi);obtain⟨ba,oa,rfl,ea⟩:=Ab.at' (hA.mono le4) (j:=i) (e:=A5 x) (by simp[hAi]);obtain⟨⟨p1,p2⟩,q⟩:=x;simp only at hx;refine G.a ba oa A.length c1 i 3 hlt4 ?_;refine G.lU (some 3) ba (oa+i*3) (.agg #[.int .i64 p1,.string (mkS p2),.string (mkS (Af q))]) ea ?_;rcases hx with ⟨h1,h2,h3⟩|⟨h1,h2⟩
  ·refine G.eT' p1 (-1) h1 ?_;refine G.hT' lab 0 h2 ?_;refine G.q p2 [] h3 ?_;refine G.i i ?_;exact G.b (hJ (i+1) _ _ _ cV l4 ⟨oV,rfl⟩ oV)
  ·refine G.eF p1 (-1) ?_;refine G.l (ι:=Nat×Bool) (fun n=>[(2,.p 0 0),(7,sV pa L.length pc),(13,.p 21002 0),(14,bV n.2),(61,sV (some ⟨ba,oa,none⟩) A.length c1),(62,iV A.length),(63,iV i),(82,sV pa L.length pc),(83,iV L.length),(84,iV n.1)])
    (fun _=>[(0,⟨31,[sV xa T.length xc,sV xb R.length xd,sV xe F.length xf,iV lab]⟩),(21002,⟨81,[iV p1,tV p2,tV (Af q)]⟩)])
    (fun n u' m'=>n.1<=L.length/\m'=m4/\n.2=(L.take n.1).any fun y=>decide (y=(p1,p2))) (fun n=>L.length-n.1) (0,false) ⟨oV,rfl,rfl⟩ ?_
   rintro J2 ⟨n,fnd⟩ hJ2 u5 m5 l5 ⟨hn,rfl,hf⟩;simp only at hn hf hJ2;by_cases hnl:n<L.length
   ·refine G.lT (n:Int) (L.length:Int) ?_;obtain⟨y,hLn⟩:∃ y,L[n]?=some y:=⟨_,A0n hnl⟩;have hany:((L.take (n+1)).any fun y=>decide (y=(p1,p2)))=(((L.take n).any fun y=>decide (y=(p1,p2)))||decide (y=(p1,p2))):=by
     rw[A1c,hLn,List.any_append];simp
    obtain⟨gs,cs,hgc⟩:=hP.ptr (fun e=>by
     have:L.length=0:=by simpa using congrArg List.length e
     omega)
    simp only[Value.slice.injEq]at hgc;obtain⟨rfl,_,rfl⟩:=hgc;have hel:ElP m5 gs (0+n*2) (An y):=hP.el (by rw[A0v,hLn];rfl);refine G.a gs 0 L.length pc n 2 hnl ?_;refine G.lM (some 2) gs (0+n*2) (.agg #[.int .i64 y.1,.string (mkS y.2)]) hel ?_;cases fnd with
    |true =>
     refine G.i n ?_;rw[<-hf,Bool.true_or]at hany;exact G.b (hJ2 (n+1,true) _ _ _ cV l5 ⟨dV,rfl,hany.symm⟩ dV)
    |false =>
     rw[<-hf,Bool.false_or]at hany;by_cases he:y=(p1,p2)
     ·rw[decide_eq_true he]at hany;refine G.eqAgg 79 #[.int .i64 y.1,.string (mkS y.2)] #[.int .i64 p1,.string (mkS p2)] true kV kV kV (fun w=>by rw[<-decide_eq_true he];exact Bt.eq y (p1,p2) w) ?_;refine G.i n ?_;exact G.b (hJ2 (n+1,true) _ _ _ cV l5 ⟨dV,rfl,hany.symm⟩ dV)
     ·rw[decide_eq_false he]at hany;refine G.eqAgg 79 #[.int .i64 y.1,.string (mkS y.2)] #[.int .i64 p1,.string (mkS p2)] false kV kV kV (fun w=>by rw[<-decide_eq_false he];exact Bt.eq y (p1,p2) w) ?_;refine G.i n ?_;exact G.b (hJ2 (n+1,false) _ _ _ cV l5 ⟨dV,rfl,hany.symm⟩ dV)
   ·obtain rfl:n=L.length:=oV
    refine G.lF (L.length:Int) (L.length:Int) ?_;have hall:((L.take L.length).any fun y=>decide (y=(p1,p2)))=true:=by
     rw[A1k];exact List.any_eq_true.2 ⟨_,h2,mV⟩
    rw[hall]at hf;subst hf;refine G.i i ?_;exact G.b (hJ (i+1) _ _ _ cV (l4.trans l5) ⟨oV,rfl⟩ oV)
 obtain rfl:i=A.length:=oV
 refine G.lF (A.length:Int) (A.length:Int) ?_;by_cases h24:24<L.length
 ·refine G.gT (L.length:Int) 24 ?_;refine G.drop PH.mt kV (PH.mt_le _) ?_;exact G.r (.tuple #[.slice none 0 0,.int .i64 3]) ⟨rfl,.inl ⟨rfl,L,h24,hsrt,hmm⟩⟩
 ·refine G.gF (L.length:Int) 24 ?_;refine G.give _ _ _ kV hP (fun g=>.inl rfl) ?_;intro u8 l8 hL8;exact G.r (.tuple #[.slice pa L.length pc,.int .i64 0]) ⟨rfl,.inr ⟨_,L,rfl,hL8,oV,hsrt,hmm⟩⟩
end
section
variable [Cc] [Dy]
section
variable {P:Program} {id:Nat} {ops:Array Oper} {dr:Bool} {Fin:S->PH->PH->Prop} {c:Cx} {Q:Exit->Act->World->Prop}
theorem Ob.wpAny3 {s0:S}(hL0:La s0)(hE:(A1q ops.size).all (Hq ops)=true)(hF:∀ s u m ρ a w,Fin s u m->Rel c s u m ρ a w->Q .normal a w){p q r:Nat}{post:List Nat}(hpost:∀ y∈post,bef ops ops.size y p=true)(hrq:bef ops ops.size r q=true)(hpq:dir ops p q=false)(hpr:dir ops p r=false) :
 ∀ (n:Nat) (pre:List Nat) (listed:Array Bool) {s:S} {u m:PH} {ρ:Nat->Nat} {a:Act} {w:World},pre.length+(post.length+3)=n->H8 ops listed (pre++p::q::r::post) ->
  (pre++p::post).Pairwise (fun x y=>Eg ops s0 x y=true)->(pre++q::r::post).Pairwise (fun x y=>Eg ops s0 x y=true)->Ei ops s0 s ->
  Ob P id ops true (fun s u m=>Ob P id ops true Fin (p::q::r::post) s u m/\Ob P id ops true (fun s u m=>Ob P id ops true Fin (p::r::post) s u m/\Ob P id ops true Fin (r::p::post) s u m) [q] s u m) pre s u m->Rel c s u m ρ a w->Go.wpAny P .any ops Q n listed a w:=by
 intro n;induction n with
 |zero=>intro pre listed s u m ρ a w hlen;omega
 |succ n ih =>
  intro pre listed s u m ρ a w hlen hLeft hP1 hP2 hag hO hr;refine⟨fun hnil=>?_,fun i hi=>?_⟩
  ·exfalso;cases pre with
   |nil =>
    have:=hLeft.first hE fun x hx=>by
     simp only[A02]at hx;rcases hx with rfl|rfl|hx
     ·exact hpq
     ·exact hpr
     ·exact Dc (A2h hP1 hx)
    rw[hnil]at this;cases this
   |cons t T' =>
    have:=H8.first (t:=t) (T:=T'++p::q::r::post) hLeft hE fun x hx=>by
     simp only[A01,A02]at hx;rcases hx with hx|rfl|rfl|rfl|hx
     ·exact Dc (A2h hP1 (by simp[hx]))
     ·exact Dc (A2h hP1 mV)
     ·exact Dc (A2h hP2 mV)
     ·exact Dc (A2h hP2 mV)
     ·exact Dc (A2h hP1 (by simp[hx]))
    rw[hnil]at this;cases this
  ·obtain⟨h1,h2,o,ho,hpre⟩:=O5.1 hi;have hm:=(hLeft.mem i h1).1 h2;simp only[A01,A02]at hm;rcases hm with hm|hm|hm|hm|hm
   ·obtain⟨A,B,rfl⟩:=List.append_of_mem hm;have hLeft':H8 ops listed (A++i::(B++p::q::r::post)):=by
     rw[A1j]at hLeft;exact hLeft
    have hP1':(A++i::(B++p::post)).Pairwise (fun x y=>Eg ops s0 x y=true):=by
     rw[A1j]at hP1;exact hP1
    have hP2':(A++i::(B++q::r::post)).Pairwise (fun x y=>Eg ops s0 x y=true):=by
     rw[A1j]at hP2;exact hP2
    have hsw:=hLeft'.swaps (A:=A) (s0:=s0) (fun x hx=>by simp[hx]) ho hpre fun x hx=>(A3a.1 hP1').2.2 x hx i mV;have hO':=Ob.bubble hL0 A hsw hr.lv hag hO;refine wpOp_mono (fun a' w' ⟨s',u',m',ρ',r1,ra,r2⟩=>?_) (hO'.step (Q:=Q) hr);refine ih (A++B) _ (by simp at hlen⊢;omega) (by rw[A1j];exact hLeft'.next ho hpre) ?_ ?_ (hag.trans ra) r2 r1
    ·rw[A1j];exact hP1'.sublist (A36 (A4d i _) A)
    ·rw[A1j];exact hP2'.sublist (A36 (A4d i _) A)
   ·subst hm;have hsw:=hLeft.swaps (A:=pre) (s0:=s0) (fun x hx=>by simp[hx]) ho hpre fun x hx=>(A3a.1 hP1).2.2 x hx i mV;have hO':=Ob.bubble hL0 pre hsw hr.lv hag (Ob.append (l2:=i::q::r::post) (hO.fin fun s u m h=>h.1));refine wpOp_mono (fun a' w' ⟨s',u',m',ρ',r1,ra,r2⟩=>?_) (hO'.step (Q:=Q) hr);exact (hLeft.next ho hpre).any hL0 hE hF gV hP2 (hag.trans ra) r2 r1
   ·subst hm;have hLeft':H8 ops listed (pre++i::p::r::post):=hLeft.perm ((A4s i p (r::post)).append_left pre);have hsw:=hLeft'.swaps (A:=pre) (s0:=s0) (fun x hx=>by simp[hx]) ho hpre fun x hx=>(A3a.1 hP2).2.2 x hx i mV;have hO':=Ob.bubble (B:=[]) hL0 pre hsw hr.lv hag (Ob.append (l2:=[i]) (hO.fin fun s u m h=>h.2));refine wpOp_mono (fun a' w' ⟨s',u',m',ρ',r1,ra,r2⟩=>?_) (hO'.step (Q:=Q) hr);rw[A1i]at r2;exact Ob.wpAny2 hL0 hE hF hpost hpr n pre _ oV (hLeft'.next ho hpre) hP1 (hP2.sublist (A36 (A4d i _) pre)) (hag.trans ra) r2 r1
   ·exfalso;subst hm;exact hLeft.no (x:=q) mV (Aqq hLeft.cl ops.size i (fun o' ho'=>by rw[ho]at ho';obtain rfl:=A2d ho';exact hpre) hrq)
   ·exfalso;exact hLeft.no (x:=p) mV (Aqq hLeft.cl ops.size i (fun o' ho'=>by rw[ho]at ho';obtain rfl:=A2d ho';exact hpre) (hpost i hm))
def Ag2 (ops:Array Oper)(s:S)(pre:List Nat)(p q r:Nat)(post:List Nat):Bool :=
 A17 (pre.length+(post.length+3)) ops.size&&(A1q ops.size).all (fun i=>(pre++p::q::r::post).contains i)&&(pre++p::q::r::post).all (fun i=>Nat.blt i ops.size)&&Lk ops s (pre++p::post)&&Lk ops s (pre++q::r::post) &&
  (A1q ops.size).all (Hq ops)&&post.all (fun y=>bef ops ops.size y p) && !dir ops p q && !dir ops p r && !A17 p q && !A17 p r&&bef ops ops.size r q
end
section
variable {P:Program} {fn:Func} {Post:B0}
theorem Sym.reg_three (hm:P.follows .mixedOrders=true){id:Nat}{ops:Array Oper}{pre post:List Nat}{p q r:Nat}{s:S}(hB:Ag2 ops s pre p q r post=true){k:List KI}{u m:PH}
 (h:Ob P id ops true (fun s u m=>Ob P id ops true (Oq P fn Post k) (p::q::r::post) s u m/\Ob P id ops true (fun s u m=>Ob P id ops true (Oq P fn Post k) (p::r::post) s u m/\Ob P id ops true (Oq P fn Post k) (r::p::post) s u m) [q] s u m) pre s u m):Oq P fn Post (.code (.region id ops true)::k) s u m:=by
 intro c ρ a w hm0 hr;simp only[Hs,Exit.then];unfold Ag2 at hB;simp only[A05,Bool.not_eq_true']at hB;obtain⟨⟨⟨⟨⟨⟨⟨⟨⟨⟨⟨b1,b2⟩,b3⟩,b4⟩,b5⟩,b6⟩,b7⟩,b8⟩,b9⟩,b10⟩,b11⟩,b12⟩:=hB;have b1:=Nat.eq_of_beq_eq_true b1;rw[List.all_eq_true]at b2 b3 b7;have P1:=D4 b4;have P2:=D4 b5;have n1:=Fb P1;have n2:=Fb P2;have hne:p≠q:=fun e=>by rw[e]at b10;simp at b10
 have hne2:p≠r:=fun e=>by rw[e]at b11;simp at b11
 refine wp_region_any hm ?_;refine Ob.wpAny3 (c:=c) hr.lv b6 (fun s u m ρ a w hf hr=>hf c ρ a w hm0 hr) b7 b12 b8 b9 _ pre _ b1 ⟨mV,fun i hi=>?_,fun i hi=>Nat.blt_eq▸b3 i hi,?_,fun i hi=>?_⟩ P1 P2 (Ei.refl _ _) h hr.drew
 ·have:=b2 i (by simpa using hi);rw[List.contains_iff_mem]at this;simp only[A1f,Array.getElem?_replicate,hi,if_true,A2y];exact⟨fun _=>this,fun _=>trivial⟩
 ·rw[A3w]at n1 n2⊢;simp only[List.nodup_cons,A02]at n1 n2⊢;obtain⟨a1,⟨a2,a3⟩,a4⟩:=n1;obtain⟨c1,c2,c4⟩:=n2;refine⟨a1,⟨fun e=>?_,c2⟩,fun x hx y hy=>?_⟩
  ·rcases e with e|e|e
   ·exact hne e
   ·exact hne2 e
   ·exact a2 e
  ·rcases hy with rfl|hy
   ·exact a4 x hx _ (.inl rfl)
   ·exact c4 x hx _ hy
 ·exfalso;simp only[A1f]at hi;by_cases hlt:i<ops.size
  ·simp[hlt]at hi
  ·rw[Array.getElem?_eq_none gV]at hi;simp at hi
def Ahj (P:Program)(pre:List Nat)(p q r:Nat)(post:List Nat)(st:List KI×S):Bool:=match st with
 |(.code (.region id ops true)::k,s)=>Ag2 ops s pre p q r post&&(Qi P id ops pre s).isSome
 |_=>false
end
section rules
variable {P:Program} [Ba P] {fn:Func} {Post:B0} {st:List KI×S} {u m:PH}
theorem Aag (e:TypeId)(sz bt:Nat)(z:Value)(es:List Value)(ho:A3 sz es)(hzs:z.cells.size=sz)(hsz:0<sz)(hn0:0<es.length)(hb:es.length*sz<=16777216)(env:Operand->Value)(o:Oper)(hview:A7 P env o.op=.buildS (some (e,sz,bt,z)) es.length (es.zipIdx.map fun p=>(p.2,p.1)))(w:World)(hgd:Bx u m w) :
 D3 P env o w fun v' w'=>∃ u' m',Bx u' m' w'/\Bz u m w u' m' w'/\(m'=m/\∃ g,v'=.slice (some ⟨g,0,none⟩) es.length es.length/\El u' g 0 sz es):=by
 obtain⟨t,qs,e1,e2,hi⟩:=E1 hview;obtain⟨dst,opp,type,pos,after,guard⟩:=o;simp only at e1;subst e1;obtain⟨hu,i,hi1,hi2,rfl,rfl⟩:=Df hi;obtain⟨g1,g2,g3,g4⟩:=hgd.newU (.cells (Az es).toArray e (0,0));have hfl:=A2 ho;have hne:es.length*i.size≠0:=by have:=A5h hn0 hsz;omega
 have hfill:=Oz es 0 ((A6d (es.length*i.size)).map (z.cells[· % z.cells.size]!)) ho mV;have e0:((A6d (es.length*i.size)).map (z.cells[· % z.cells.size]!)).toList.drop (es.length*i.size) = []:=by
  apply List.drop_eq_nil_of_le;simp
 simp only[Nat.zero_mul,List.take_zero,List.nil_append,A2b,e0,A1i]at hfill;refine Bq (w':=w.alloc (.cells (Az es).toArray e (0,0))) (v:=.slice (some ⟨w.heap.size,0,none⟩) es.length es.length) ?_ ⟨_,m,g1,g2,rfl,_,rfl,?_⟩
 ·simp only[execOp,e2];simp[Instr.buildSlice,run_underlying hu,sizeOf,typeInfo,zeroValue,hi1,hi2,hne,hfill,newRow,show ¬ 16777216<es.length*i.size by omega]
 ·intro j x hj ii y hy;refine⟨_,_,_,Ac _ _ _,?_⟩;rw[A2x,A2b];exact Gm ho hj hy
theorem G.three (pre:List Nat)(p q r:Nat)(post:List Nat)(e:TypeId)(sz bt:Nat)(z:Value)(es:List Value)(h:Ahj P pre p q r post (adv P st)=true)(hq:Al P (Kz P pre (q::p::r::post) (adv P st))=.buildS (some (e,sz,bt,z)) es.length (es.zipIdx.map fun p=>(p.2,p.1)))(ho:A3 sz es)(hzs:z.cells.size=sz)(hsz:0<sz)(hn0:0<es.length)(hb:es.length*sz<=16777216)
 (k1:G P fn Post (Kz P pre (p::q::r::post) (adv P st)) u m)
 (k2:∀ g u',PH.le u u'->El u' g 0 sz es->G P fn Post (nx (Kz P pre (q::p::r::post) (adv P st)) (.slice (some ⟨g,0,none⟩) es.length es.length)) u' m/\G P fn Post (nx (Kz P pre (q::r::p::post) (adv P st)) (.slice (some ⟨g,0,none⟩) es.length es.length)) u' m):G P fn Post st u m:=by
 refine G.stp ⟨?_⟩;generalize adv P st=st' at h hq k1 k2;unfold Ahj at h;split at h
 ·rename_i id ops k s;rw[A05]at h;obtain⟨h1,h2⟩:=h;obtain⟨s',hs'⟩:=Option.isSome_iff_exists.1 h2;have e0:∀ l,Kz P pre l (.code (.region id ops true)::k,s)=(.reg id ops true l::k,s'):=fun l=>by unfold Kz;simp only[hs']
  rw[e0]at k1 hq;rw[e0,e0]at k2;obtain⟨id',ops',dr',i',l',kk',s'',o,e1,ho',hg,hd,hv,hs,hview,hnx⟩:=Ho hq mV;simp only[A1r,List.cons.injEq,KI.reg.injEq]at e1;obtain⟨⟨⟨rfl,rfl,rfl,rfl,rfl⟩,rfl⟩,rfl⟩:=e1;refine Sym.reg_three Ba.mx h1 (Ob.autos hs' ⟨k1.out,?_⟩);refine Ob.big (K:=fun v' u' m'=>m'=m/\∃ g,v'=.slice (some ⟨g,0,none⟩) es.length es.length/\El u' g 0 sz es) ho' hg hd hv hs (by
   obtain⟨t,qs,e2,_⟩:=E1 hview;rw[e2];rfl) (fun v u' m' hK=>.inl (by rw[hK.1];exact PH.le_refl _)) (fun w hgd=>Aag e sz bt z es ho hzs hsz hn0 hb _ o hview w hgd) (fun v u' m' hle hK=>?_)
  obtain⟨rfl,g,rfl,hE⟩:=hK;obtain⟨c1,c2⟩:=k2 g u' hle hE;have n1:nx (.reg id ops true (q::p::r::post)::k,s') (.slice (some ⟨g,0,none⟩) es.length es.length)=(.reg id ops true (p::r::post)::k,s'.put o.dst (.v (.slice (some ⟨g,0,none⟩) es.length es.length))):=by
   unfold nx;simp only[ho']
  have n2:nx (.reg id ops true (q::r::p::post)::k,s') (.slice (some ⟨g,0,none⟩) es.length es.length)=(.reg id ops true (r::p::post)::k,s'.put o.dst (.v (.slice (some ⟨g,0,none⟩) es.length es.length))):=by
   unfold nx;simp only[ho']
  rw[n1]at c1;rw[n2]at c2;exact .nil ⟨c1.out,c2.out⟩
 ·cases h
end rules
end
end Go.Proofs.YtanfagpabkdmiaaGreatDoor
