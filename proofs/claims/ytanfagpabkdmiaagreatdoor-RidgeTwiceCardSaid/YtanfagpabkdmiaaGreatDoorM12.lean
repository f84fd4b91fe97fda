/- Parts of one proof, joined by a program. -/
import Derived.Test.YtanfagpabkdmiaaGreatDoorM11
set_option linter.unusedVariables false
set_option linter.unusedSimpArgs false
set_option linter.unusedSectionVars false
set_option maxHeartbeats 16000000
namespace Go.Proofs.YtanfagpabkdmiaaGreatDoor
open Go.Proofs.Tryz
open Go.RowKit Go.MapKept
open _root_.Array renaming getD_eq_getD_getElem? -> A1f, range -> A6d
open Bool renaming and_eq_true -> A05
open Instr renaming sureAddr -> A3x
open Int renaming natAbs_mul -> A30, natAbs_natCast -> A1z
open List renaming Perm.swap -> A4s, all_eq_true -> A08, append_assoc -> A1j, append_nil -> A1i, cons.injEq -> A18, cons_append -> A39, erase_cons_head -> A2v, erase_cons_tail -> A49, getD_cons_succ -> A5b, getD_eq_getElem?_getD -> A0o, getElem?_append_left -> A1d, getElem?_append_right -> A1s, getElem?_eq_getElem -> A0n, getElem?_eq_some_iff -> A0s, getElem?_map -> A0v, getElem?_range -> A52, getElem_map -> A4r, getElem_mem -> A04, getElem_of_mem -> A19, length -> A35, length_append -> A0z, length_cons -> A2n, length_map -> A0p, length_set -> A3u, length_take -> A00, map_append -> A07, map_set -> A27, mem_append -> A01, mem_append_left -> A24, mem_cons -> A02, mem_flatMap -> A7s, mem_iff_getElem -> A2u, mem_map -> A0u, mem_of_getElem? -> A1b, mem_of_mem_erase -> A93, nil_append -> A2t, not_mem_nil -> A14, range -> A1q, rel_of_pairwise_cons -> A2h, set_append_right -> A4k, set_cons_zero -> A2k, take_add_one -> A1c, take_of_length_le -> A03
open Nat renaming add_mul -> A1o, div_le_self -> A3v, le_of_dvd -> A5s, le_refl -> A0w, le_trans -> A0q, lt_of_le_of_lt -> A2q, mul_le_mul -> A3j, one_pos -> A6e, pow_le_pow_right -> A1l, zero_add -> A2b, zero_le -> A1m
open Option renaming some.inj -> A2d, some.injEq -> A0t
open Prod renaming mk.injEq -> A1r
open Rat renaming divInt -> A2m, divInt_eq_div -> A4h, div_def -> A7l, intCast_add -> A48, intCast_inj -> Bbx, intCast_le_intCast -> A3t, intCast_mul -> A23, intCast_natCast -> A2j, le_of_lt -> Ba0, le_total -> A8c, mul_eq_zero -> A6c, mul_inv_cancel -> A8u, mul_nonneg -> A2f, mul_pos -> Bbe, natCast_le_natCast -> A5k, natCast_mul -> A6b, not_lt -> A99, num_divInt_den -> A66
open Value renaming agg -> A8q, cells -> A1e, slice -> A06, slice.injEq -> A09
section
theorem Rs (T:List (List UInt8×Nat)):A3 2 (T.map D0):=by
 intro e he;obtain⟨x,_,rfl⟩:=A0u.1 he;exact⟨rfl,fun y hy=>by simp[D0,A1e]at hy;rcases hy with rfl|rfl<;>rfl⟩
theorem Aje (R:List Bk):A3 2 (R.map Gb):=by
 intro e he;obtain⟨x,_,rfl⟩:=A0u.1 he;exact Nk x _ mV
theorem Ane {u:PH}{v:Value}{T:List (List UInt8×Nat)}{R:List Bk}{F:List Ao}{lab:Int}(hX:F1 u v T R F lab)(ok:Bn u T R F lab)(hT:T.length<=11)(hn:∀ a∈T,a.1≠nmB T.length) :
 Fn0 prog 102 [v,.int .i64 2] u fun r u'=>∃ R',F1 u' r (T++[(nmB T.length,2)]) R' F lab/\Bn u' (T++[(nmB T.length,2)]) R' F lab:=by
 obtain⟨xa,xc,xb,xd,xe,xf,rfl,hTL,hRL,hFL⟩:=hX;have r1:=ok.r1;have r2:=ok.r2;obtain⟨R0,r,rfl⟩:∃ R0 r,R=R0++[r]:=⟨R.dropLast,R.getLast (fun e=>by rw[e]at r1;simp at r1),(List.dropLast_concat_getLast _).symm⟩;have hrl:=ok.rel.at' r mV;have hll:=ok.rel.len r mV;refine Fn0.o func102 ?_;refine G.appendL 92 2 24 (.agg #[.string (mkS []),.int .i64 0]) PH.mt [] (T.map D0) (.slice none 0 0) xa T.length xc kV rfl rfl oV (Ae.nil _ _ _) hTL (Rs T) gV gV ?_;intro v1 m1 hA1;rw[A2t]at hA1;obtain⟨a1,c1,rfl⟩:=hA1.shape;rw[A0p]at hA1⊢;refine G.c call179 (N9 (p:=[98]) (i:=T.length) oV mV) ?_;rintro v2 u2 l2 rfl;refine G.B 92 2 24 (.agg #[.string (mkS []),.int .i64 0]) [.agg #[.string (mkS ([98]++[Uj T.length])),.int .i64 2]] (Rs [(nmB T.length,2)]) ?_;intro g3 u3 l3 e3;refine G.k 92 2 24 (.agg #[.string (mkS []),.int .i64 0]) PH.mt (T.map D0) [D0 (nmB T.length,2)] (.slice a1 T.length c1) g3 0 1 1 hA1 e3 (Rs [(nmB T.length,2)]) ?_;intro v4 m4 hA4;rw[show T.map D0++[D0 (nmB T.length,2)]=(T++[(nmB T.length,2)]).map D0 by rw[A07];rfl]at hA4;obtain⟨a4,c4,rfl⟩:=hA4.shape;rw[A0p]at hA4⊢;refine G.appendL 94 2 40 (.agg #[.string (mkS []),.slice none 0 0]) m4 [] ((R0++[r]).map Gb) (.slice none 0 0) xb (R0++[r]).length xd kV rfl rfl oV (Ae.nil _ _ _) (hRL.mono (l2.trans l3)) (Aje _) (by rw[A0p];simp at r2⊢;omega) (by rw[A0p];simp at r2⊢;omega) ?_;intro v5 m5 hA5;rw[A2t]at hA5;obtain⟨b5,c5,rfl⟩:=hA5.ptr mV;rw[A0p]at hA5⊢;have hRl:(R0++[r]).length=R0.length+1:=mV
 refine G.s ((R0++[r]).length:Int) 1 (R0.length:Int) ?_;refine G.a b5 0 (R0++[r]).length c5 R0.length 2 oV ?_;have hel:ElP m5 b5 (0+R0.length*2) (Gb r):=hA5.el mV;refine G.f 94 b5 (0+R0.length*2) 1 1 ?_;refine G.lM none b5 (0+R0.length*2+1) (.slice r.2.2.1 r.2.1.length r.2.2.2) (hel.fld (j:=1) (xs:=#[.string (mkS r.1),.slice r.2.2.1 r.2.1.length r.2.2.2]) rfl rfl) ?_;have hil:(Ag r.2.1).length=r.2.1.length:=by simp[Ag]
 refine G.appendL 3 1 8 (.int .i64 0) m5 [] (Ag r.2.1) (.slice none 0 0) r.2.2.1 r.2.1.length r.2.2.2 kV rfl rfl oV (Ae.nil _ _ _) (hrl.mono (l2.trans l3)) (Ax _) (by simp[hil];omega) (by simp[hil];omega) ?_;intro v6 m6 hA6;rw[A2t]at hA6;obtain⟨a6,c6,rfl⟩:=hA6.shape;rw[hil]at hA6⊢;refine G.buildU 3 1 8 (.int .i64 0) (Ag [T.length]) kV (Ax [T.length]) rfl oV (by simp[Ag]) (by simp[Ag]) ?_;intro g7 u7 l7 e7;refine G.append 3 1 8 (.int .i64 0) m5 (Ag r.2.1) (Ag [T.length]) (.slice a6 r.2.1.length c6) g7 0 1 1 kV rfl rfl oV hA6 e7 (Ax [T.length]) rfl oV (by simp[hil];omega) (by simp[hil];omega) ?_;intro v8 m8 hA8;rw[show Ag r.2.1++Ag [T.length]=Ag (r.2.1++[T.length]) by simp[Ag]]at hA8;obtain⟨a8,c8,rfl⟩:=hA8.shape;have hil2:(Ag (r.2.1++[T.length])).length=(r.2.1++[T.length]).length:=by simp[Ag]
 rw[hil2]at hA8⊢;obtain⟨mx,hy1,hx1,hput⟩:=At.swap (x:=⟨.slice (some ⟨b5,0,none⟩) (R0++[r]).length c5,94,2,(R0++[r]).map Gb⟩) (y:=⟨.slice a8 (r.2.1++[T.length]).length c8,3,1,Ag (r.2.1++[T.length])⟩) hA8 hA5;refine G.f 94 b5 (0+R0.length*2) 1 1 ?_;refine G.storeE (t:=94) 2 1 mx ((R0++[r]).map Gb) b5 (R0++[r]).length c5 R0.length (Gb r) (Gb (r.1,r.2.1++[T.length],(a8,c8))) (.slice a8 (r.2.1++[T.length]).length c8) kV hx1 mV oV rfl rfl rfl ?_;intro m9 hA9;have e9:((R0++[r]).map Gb).set R0.length (Gb (r.1,r.2.1++[T.length],(a8,c8)))=(R0++[(r.1,r.2.1++[T.length],(a8,c8))]).map Gb:=by
  rw[A07,A07,A4k _ _ mV,A0p,Nat.sub_self];rfl
 rw[e9]at hA9;have hlm:PH.le mx m9:=fun g o hg=>hA9.see hg;obtain⟨my,hz1,hz2⟩:=hput ⟨.slice (some ⟨b5,0,none⟩) (R0++[r]).length c5,94,2,(R0++[(r.1,r.2.1++[T.length],(a8,c8))]).map Gb⟩ m9 hA9;have hl4:PH.le m4 m9:=fun g o hg=>hlm g o (hy1.see hg);refine G.giveP (ma:=m9) (sm:=PH.mt) kV (Aii m9).symm (fun g=>.inr rfl) (fun g=>.inl rfl) ?_;intro u10 l10 hm10;have leA:=((l2.trans l3).trans l7).trans l10;have hR':Mh u10 (T.length+1) (R0++[(r.1,r.2.1++[T.length],(a8,c8))]):=Ahn ok.rel leA oV (Ae.list hy1 (hlm.trans hm10));have hlen':(R0++[(r.1,r.2.1++[T.length],(a8,c8))]).length=(R0++[r]).length:=mV
 exact G.r (.agg #[.slice a4 (T++[(nmB T.length,2)]).length c4,.slice (some ⟨b5,0,none⟩) (R0++[r]).length c5,.slice xe F.length xf,.int .i64 lab]) ⟨rfl,_,⟨_,_,_,_,_,_,by rw[hlen'],Ae.list hA4 (hl4.trans hm10),by rw[hlen'];exact Ae.list hA9 hm10,hFL.mono leA⟩,Ag5 ok hT hn hR' hlen'⟩
end
section
variable {R:List Bk}{T:List (List UInt8×Nat)}{a:Nat}{lab:Int}{n:List UInt8}{u:PH}
def Af1 (T:List (List UInt8×Nat)):Prop:=∀ a∈T,(∃ j,a.1=nmA j)\/∃ j,j<T.length/\a.1=nmB j
theorem Ain (h:Af1 T)(hT:T.length<26):∀ a∈T,a.1≠nmB T.length:=by
 intro a ha e;rcases h a ha with ⟨j,hj⟩|⟨j,hj,e2⟩
 ·rw[hj]at e;unfold nmA nmB at e;simp at e
 ·rw[e2]at e;unfold nmB at e;simp only[A39,A2t,A18,and_true,true_and]at e;have h1:=Rk (i:=j) oV;have h2:=Rk (i:=T.length) hT;rw[e,h2]at h1;omega
theorem Af1.snoc (h:Af1 T)(k:Nat):Af1 (T++[(nmB T.length,k)]):=by
 intro a ha;rcases A01.1 ha with ha|ha
 ·rcases h a ha with h1|⟨j,hj,e⟩
  ·exact .inl h1
  ·exact .inr ⟨j,gV,e⟩
 ·simp at ha;subst ha;exact .inr ⟨T.length,mV,rfl⟩
theorem TOK.nmOK (h:TOK T):Af1 T:=by
 intro a ha;have:a.1∈T.map (·.1):=A0u.2 ⟨a,ha,rfl⟩;rw[h.nm]at this;obtain⟨j,_,e⟩:=A0u.1 this;exact .inl ⟨j,e.symm⟩
theorem Aea {F:List Ao}(ok:Bn u T R F lab)(ha:T[a]?=some (n,2))(hF:∀ f∈F,f.1≠a):Bn u T R F (a:Int):=by
 refine⟨ok.att,ok.rel,⟨fun f hf=>?_,ok.feat.nodup⟩,ok.t1,ok.t2,ok.r1,ok.r2,ok.f2,oV,fun l hl=>?_⟩
 ·obtain⟨n,k,h1,h2,_⟩:=ok.feat.ok f hf;have:=hF f hf;exact⟨n,k,h1,h2,oV⟩
 ·have:l=a:=oV
  subst this;exact⟨n,ha⟩
theorem Ai8 (ok:Bn u T R [] lab){a mi:Nat}(ha:T[a]?=some (n,2))(hl:(a:Int)≠lab)(hm:mi<=1):Bn u T R [(a,1,mi)] lab:=by
 refine⟨ok.att,ok.rel,⟨fun f hf=>?_,mV⟩,ok.t1,ok.t2,ok.r1,ok.r2,mV,ok.l1,ok.l2⟩;simp at hf;subst hf;exact⟨n,2,ha,.inl ⟨rfl,rfl,hm⟩,hl⟩
theorem Wy {s:Src}{ts:List Int}{k:Nat}(most:Nat)(hm1:1<=most)(hm6:most<=6)(h:Aq7 u s ts)(hk:k<=s.n) :
 Ai prog 45 [s.ptr,.int .i64 (most:Int)] u (s.M k) fun v u' m'=>∃ (T:List (List UInt8×Nat)) (R:List Bk) (F:List Ao) (lab:Int) (k':Nat),F1 u' v T R F lab/\Bn u' T R F lab/\T.length<=8/\0<=lab/\F≠[]/\k'<=s.n/\m'=s.M k'/\F.length<=most:=by
 refine Ai.o func45 ?_;refine G.A call100 (Z1 most hm1 hm6 h hk) ?_;rintro v1 u1 m1 l1 ⟨T,R,F,lab,k1,hX,ok,hT6,hk1,rfl,hTOK,_,hFm⟩ _;rw[C2];have hnm:=hTOK.nmOK;obtain⟨xa,xc,xb,xd,xe,xf,rfl,hTL,hRL,hFL⟩:=id hX;have ol1:=ok.l1;have hf8:=ok.f2;refine G.joinF (ι:=Int) (fun st=>Xy prog st [.bool false]) (fun z=>[(0,.v s.ptr),(4,.p 0 0),(5,.p 1003 0)])
  (fun z=>[(0,⟨31,[sV none 0 0,sV none 0 0,sV none 0 0,iV 0]⟩),(1003,⟨31,[sV xa T.length xc,sV xb R.length xd,sV xe F.length xf,iV z]⟩)])
  (fun z u' m'=>m'=s.M k1/\Bn u' T R F z) (fun _=>kV) kV ?tail ?way
 case way =>
  intro hjoin;by_cases hl:lab<0
  ·refine G.lT' lab 0 hl ?_;refine G.l (ι:=Nat×Int) (fun i=>[(0,.v s.ptr),(4,.p 0 0),(5,.p 1003 0),(15,sV xa T.length xc),(16,iV T.length),(17,iV i.1)])
    (fun i=>[(0,⟨31,[sV none 0 0,sV none 0 0,sV none 0 0,iV 0]⟩),(1003,⟨31,[sV xa T.length xc,sV xb R.length xd,sV xe F.length xf,iV i.2]⟩)])
    (fun i u' m'=>i.1<=T.length/\m'=s.M k1/\Bn u' T R F i.2) (fun i=>T.length-i.1) (0,lab) ⟨oV,rfl,ok⟩ ?_
   rintro J ⟨i,z⟩ hJ u2 m2 l2 ⟨hi,rfl,ok2⟩;simp only at hi ok2 hJ;by_cases hlt:i<T.length
   ·refine G.lT (i:Int) (T.length:Int) ?_;obtain⟨x,hTi⟩:∃ x,T[i]?=some x:=⟨_,A0n hlt⟩;obtain⟨ba,oa,rfl,ea⟩:=Ab.at' (hTL.mono l2) (j:=i) (e:=D0 x) (by simp[hTi]);obtain⟨xn,xk⟩:=x;refine G.a ba oa T.length xc i 2 hlt ?_;refine G.lU (some 2) ba (oa+i*2) (.agg #[.string (mkS xn),.int .i64 (xk:Int)]) ea ?_;by_cases h2:xk=2
    ·subst h2;refine G.eT ((2:Nat):Int) 2 ?_;refine G.c call101 (Aps (a:=i) (hFL.mono l2) oV) ?_;rintro v3 u3 l3 rfl;cases hu:F.any fun f=>f.1==i with
     |true =>
      refine G.i i ?_;exact G.b (hJ (i+1,z) _ _ _ cV (l2.trans l3) ⟨dV,rfl,ok2.mono l3⟩ dV)
     |false =>
      refine G.i i ?_;exact G.b (hJ (i+1,(i:Int)) _ _ _ cV (l2.trans l3) ⟨dV,rfl,Aea (ok2.mono l3) hTi fun f hf e=>by
       have:=List.any_eq_false.1 hu f hf;simp[e]at this⟩ dV)
    ·refine G.eF (xk:Int) 2 ?_;refine G.i i ?_;exact G.b (hJ (i+1,z) _ _ _ cV l2 ⟨dV,rfl,ok2⟩ dV)
   ·obtain rfl:i=T.length:=oV
    refine G.lF (T.length:Int) (T.length:Int) ?_;exact hjoin z _ _ _ kV cV l2 ⟨rfl,ok2⟩
  ·refine G.lF lab 0 ?_;exact hjoin lab _ _ _ kV cV (PH.le_refl _) ⟨rfl,ok⟩
 rintro z u2 m2 l2 ⟨rfl,ok2⟩;have hX2:F1 u2 (.agg #[.slice xa T.length xc,.slice xb R.length xd,.slice xe F.length xf,.int .i64 z]) T R F z:=⟨_,_,_,_,_,_,rfl,hTL.mono l2,hRL.mono l2,hFL.mono l2⟩;have hFL2:=hFL.mono l2;clear hX hTL hRL ok hTOK hFL;refine G.joinF (ι:=(List (List UInt8×Nat)×(Option Addr×Nat))×(List Bk×(Option Addr×Nat))×(Option Addr×Nat)×Int) (fun st=>Xy prog st [.bool false]) (fun _=>[(0,.v s.ptr),(4,.p 0 0),(5,.p 1003 0)])
  (fun i=>[(0,⟨31,[sV none 0 0,sV none 0 0,sV none 0 0,iV 0]⟩),(1003,⟨31,[sV i.1.2.1 i.1.1.length i.1.2.2,sV i.2.1.2.1 i.2.1.1.length i.2.1.2.2,sV i.2.2.1.1 F.length i.2.2.1.2,iV i.2.2.2]⟩)])
  (fun i u' m'=>m'=s.M k1/\Bn u' i.1.1 i.2.1.1 F i.2.2.2/\F1 u' (.agg #[.slice i.1.2.1 i.1.1.length i.1.2.2,.slice i.2.1.2.1 i.2.1.1.length i.2.1.2.2,.slice i.2.2.1.1 F.length i.2.2.1.2,.int .i64 i.2.2.2]) i.1.1 i.2.1.1 F i.2.2.2/\Af1 i.1.1/\i.1.1.length<=7/\0<=i.2.2.2) (fun _=>kV) kV ?tail2 ?way2
 case way2 =>
  intro hjoin;by_cases hl:z<0
  ·refine G.lT' z 0 hl ?_;refine G.c call102 (Ane hX2 ok2 oV (Ain hnm oV)) ?_;rintro v3 u3 l3 ⟨R',hX3,ok3⟩;obtain⟨ya,yc,yb,yd,ye,yf,rfl,hTL3,hRL3,hFL3⟩:=id hX3;have hlen:(T++[(nmB T.length,2)]).length=T.length+1:=mV
   refine G.s ((T++[(nmB T.length,2)]).length:Int) 1 (T.length:Int) ?_;have ok4:Bn u3 (T++[(nmB T.length,2)]) R' F (T.length:Int):=Aea ok3 (n:=nmB T.length) mV fun f hf e=>by
    obtain⟨n,kd,h1,_⟩:=ok2.feat.ok f hf;have:=(A0s.1 h1).1;omega
   exact hjoin ((T++[(nmB T.length,2)],(ya,yc)),(R',(yb,yd)),(ye,yf),(T.length:Int)) _ _ _ kV cV l3 ⟨rfl,ok4,⟨_,_,_,_,_,_,rfl,hTL3,hRL3,hFL3⟩,hnm.snoc 2,dV,dV⟩
  ·refine G.lF z 0 ?_;exact hjoin ((T,(xa,xc)),(R,(xb,xd)),(xe,xf),z) _ _ _ kV cV (PH.le_refl _) ⟨rfl,ok2,hX2,hnm,dV,dV⟩
 rintro⟨⟨T,⟨xa,xc⟩⟩,⟨R,⟨xb,xd⟩⟩,⟨xe,xf⟩,z⟩ u3 m3 l3 ⟨rfl,ok3,hX3,hnm,hT7,hz⟩;simp only at ok3 hX3 hnm hT7 hz;by_cases hF0:F = []
 ·subst hF0;refine G.eT' ((([]:List Ao).length:Nat):Int) 0 rfl ?_;refine G.c call102 (Ane hX3 ok3 oV (Ain hnm oV)) ?_;rintro v4 u4 l4 ⟨R',hX4,ok4⟩;obtain⟨ya,yc,yb,yd,ye,yf,rfl,hTL4,hRL4,hFL4⟩:=id hX4;have hlen:(T++[(nmB T.length,2)]).length=T.length+1:=mV
  refine G.s ((T++[(nmB T.length,2)]).length:Int) 1 (T.length:Int) ?_;refine G.A call73 (Ia (n:=2) (h.mono (((l1.trans l2).trans l3).trans l4)) hk1 oV oV) ?_;rintro v5 u5 m5 l5 ⟨r,k5,rfl,hr,hk5,rfl⟩ _;rw[C2];refine G.B 144 3 24 (.agg #[.int .i64 0,.int .i64 0,.int .i64 0]) [.agg #[.int .i64 (T.length:Int),.int .i64 1,.int .i64 (r:Int)]] (Hu (T.length,1,r)) ?_;intro g6 u6 l6 e6;have hzl:((T.length:Nat):Int)≠z:=by
   intro e;obtain⟨n,hn⟩:=ok3.l2 T.length e.symm;have:=(A0s.1 hn).1;omega
  have ok6:Bn u6 (T++[(nmB T.length,2)]) R' [(T.length,1,r)] z:=Ai8 (n:=nmB T.length) (ok4.mono (l5.trans l6)) mV hzl oV;exact G.r (.agg #[.slice ya (T++[(nmB T.length,2)]).length yc,.slice yb R'.length yd,.slice (some ⟨g6,0,none⟩) 1 1,.int .i64 z]) ⟨_,R',[(T.length,1,r)],z,k5,⟨_,_,_,_,_,_,rfl,hTL4.mono (l5.trans l6),hRL4.mono (l5.trans l6),e6.listP⟩,ok6,oV,hz,mV,hk5,rfl,hm1⟩
 ·refine G.eqlF (F.length:Int) 0 kV (by
   have:F.length≠0:=fun e=>hF0 (List.length_eq_zero_iff.1 e);omega) ?_
  exact G.r (.agg #[.slice xa T.length xc,.slice xb R.length xd,.slice xe F.length xf,.int .i64 z]) ⟨T,R,F,z,k1,hX3,ok3,oV,hz,hF0,hk1,rfl,hFm⟩
end
section
theorem Ana {n:Nat}(h:n<=8):46656^n*7*100<10^100:=by
 have h1:46656^n<=46656^8:=A1l oV h;have h2:46656^8<10^50:=jV
 have h3:(10:Nat)^50*100000<10^100:=jV
 omega
theorem S9 {u:PH}{T:List (List UInt8×Nat)}{R:List Bk}{F:List Ao}{lab:Int}(ok:Bn u T R F lab)(hT:T.length<=8){L:List E7}(hL:∀ y∈L,Cr T y.1/\y.2.1<=7)(hl:L.length<=100):CFS (C8 F lab L)/\CFV (C8 F lab L):=by
 obtain⟨s1,s2⟩:=Wr ok hL;refine⟨s1.cfs oV ?_,s2⟩;have hp:=Ana hT;have:=Nat.mul_le_mul_right (46656^T.length*7) hl;omega
end
section
variable {L:List E7}
theorem Aec {F:List Ao}{lab:Int}:∀ p,(C8 F lab L).s p≠0->Aar F lab p:=fun p hp=>by
 obtain⟨y,hy,hne⟩:=Adn hp;exact (Acc hne).1
theorem WOK.tup {u:PH}{T:List (List UInt8×Nat)}(h:WOK u T L):∀ y∈L,Cr T y.1/\y.2.1<=7:=fun y hy=>by
 obtain⟨_,q1,_,q2⟩:=h y hy;exact⟨q1,q2⟩
end
section
variable {F:List Ao}{T:List (List UInt8×Nat)}{lab:Int}
theorem Ann {ss:List (List UInt8)}{p:Par}{i:Nat}{f:Ao}(hF:Dk T F lab)(ht:Cr T ss)(hne:(cfT F lab ss).s p≠0)(hp:p.1=(i:Int))(hf:F[i]?=some f)(hk:f.2.1=2):p.2 = []\/Ac1 p.2=true:=by
 obtain⟨_,a,q,ha,_⟩:=Acc hne;have hla:a<ss.length:=by
  have:=(A0s.1 ha).1;rwa[F3]at this
 have e:=Gq (F:=F) (lab:=lab) (w:=ss[a]) (A0n hla);rw[ha]at e;have e2:Fg F lab a ss[a]=some (some (p,q)):=(A2d e).symm;obtain⟨x,hx,hv⟩:=ht.at hla;generalize ss[a]=w at e2 hv;by_cases hl:(a:Int)=lab
 ·have e4:Fg F lab a w=O7 w:=by unfold Fg;rw[if_pos hl]
  rw[e4]at e2;unfold O7 at e2;split at e2
  ·cases e2
  ·simp only[A0t,A1r]at e2;obtain⟨rfl,_⟩:=e2;simp only at hp;omega
 ·rcases Ga (F:=F) (w:=w) hl with h1|⟨j,g,hg,hga,h1⟩
  ·rw[h1]at e2;cases e2
  ·rw[h1]at e2;have hji:p.1=(j:Int):=by
    unfold Jk at e2;split at e2
    ·cases e2;rfl
    ·split at e2
     ·split at e2<;>cases e2
     ·cases e2;rfl
   obtain rfl:j=i:=oV
   rw[hg]at hf;cases hf;unfold Jk at e2;rw[if_pos hk]at e2;simp only[A0t,A1r]at e2;obtain⟨rfl,_⟩:=e2;obtain⟨n,k,h1,h2,_⟩:=hF.ok f (A1b hg);rw[hga,hx]at h1;cases h1;rcases hv with h|⟨_,h⟩|⟨h,_⟩|⟨h,_⟩
   ·exact .inl h
   ·exact .inr h
   ·omega
   ·omega
theorem Ye {α β:Type}{f:α->List β}{n:Nat}:∀ {l:List α},(∀ x∈l,(f x).length<=n)->(l.flatMap f).length<=l.length*n
 |[],_=>mV
 |x::l,h=>by
  rw[List.flatMap_cons,A0z,A2n,A1o,Nat.one_mul];have h1:=h x mV;have h2:=Ye (l:=l) fun y hy=>h y (by simp[hy]);omega
theorem Al6 {L:List E7}{P:List Par}(hF:Dk T F lab)(hT:∀ y∈L,Cr T y.1)(hP:R1 F (C8 F lab L) P):P.length<=F.length*4:=by
 have hsub:P ⊆ (A1q F.length).flatMap fun (i:Nat)=>[((i:Int),([]:List UInt8)),((i:Int),Ack),((i:Int),M0),((i:Int),Tg)]:=fun p hp=>by
  rcases (hP.2 p).1 hp with ⟨i,f,rfl,hf,_⟩|⟨hne,i,f,h1,hf,h2⟩
  ·exact A7s.2 ⟨i,by simpa using (A0s.1 hf).1,by unfold Iw;simp⟩
  ·refine A7s.2 ⟨i,by simpa using (A0s.1 hf).1,?_⟩;obtain⟨y,hy,hy2⟩:=Adn hne;obtain⟨p1,p2⟩:=p;simp only at h1;subst h1;rcases Ann hF (hT y hy) hy2 rfl hf h2 with h3|h3
   ·simp only at h3;subst h3;simp
   ·rcases Alx h3 with h4|h4|h4<;>· simp only at h4;subst h4;simp
 have h1:=List.Nodup.length_le_of_subset (hP.1.nodup Dp) hsub;refine A0q h1 ?_;have:=Ye (l:=A1q F.length) (n:=4) (f:=fun (i:Nat)=>[((i:Int),([]:List UInt8)),((i:Int),Ack),((i:Int),M0),((i:Int),Tg)]) fun x _=>mV
 rw[List.length_range]at this;exact this
end
section
variable {F:List Ao}{R:List Bk}{T:List (List UInt8×Nat)}{lab:Int}{u:PH}
theorem Aom {ss:List (List UInt8)}(ok:Bn u T R F lab)(ht:Cr T ss)(h1:-1<=lab)(h2:∀ l:Nat,lab=(l:Int)->l<ss.length)(hc:T4 F lab ss=true)(p:Par):Dn 1 108 ((cfT F lab ss).s p):=by
 by_cases h:(cfT F lab ss).s p=0
 ·rw[h];exact Dn.zero _ _
 ·obtain⟨_,a,q,ha,_⟩:=Acc h;rw[Ajr ok.feat ht h1 h2 hc ha];exact Dn.smr (show SmR q/\PV p from Kt ok ht _ (A1b ha)).1
theorem An6 {x:Par->Rat}(h:∀ p,Dn 1 108 (x p)):∀ e,Dn 1 108 (Afw x e)
 |none=>Dn.smr (show SmR 1 from⟨jV,jV⟩)
 |some p=>h p
structure G5 (N:Nat)(C:CF):Prop where
 c:∀ e f,Dn 2 N (As C e f)
 r:∀ e,Dn 2 N (Ay C e)
 l:Dn 2 N (C.t (Ap Aq Aq))
theorem Ae2 (ok:Bn u T R F lab)(h1:-1<=lab)(h2:∀ l:Nat,lab=(l:Int)->l<T.length):∀ {L:List E7},(∀ y∈L,Cr T y.1/\y.2.1<=7)->G5 (L.length*81648) (C8 F lab L):=by
 intro L;induction L using Iv with
 |h0=>exact fun _=>⟨fun e f=>by rw[show C8 F lab []=CF.num 0 from rfl,Ans.cell];exact Dn.zero _ _,fun e=>by cases e<;>exact Dn.zero _ _,Dn.zero _ _⟩
 |h1 L y ih =>
  intro h;have i1:=ih fun z hz=>h z (A24 _ hz);obtain⟨hy,hw⟩:=h y mV;have hlen:=hy.len;have hl:∀ l:Nat,lab=(l:Int)->l<y.1.length:=fun l e=>by have:=h2 l e;omega
  have one:G5 11664 (cfT F lab y.1):=by
   rcases L9 ok.feat hy h1 hl with ⟨hc,o⟩|⟨_,o⟩
   ·have hd:=Aom ok hy h1 hl hc;have he:=An6 hd;exact⟨fun e f=>by rw[o.cell];exact (he e).mul (he f),fun e=>by rw[o.right];exact (hd Aq).mul (he e),by rw[o.t];exact (hd Aq).mul (hd Aq)⟩
   ·have hn:cfT F lab y.1=cfT F lab y.1:=rfl;refine⟨fun e f=>by rw[o.cell];exact Dn.zero _ _,fun e=>?_,?_⟩
    ·cases e
     ·show Dn 2 11664 ((cfT F lab y.1).s Aq);rw[o.s];exact Dn.zero _ _
     ·show Dn 2 11664 ((cfT F lab y.1).t _);rw[o.t];exact Dn.zero _ _
    ·rw[o.t];exact Dn.zero _ _
  have add:∀ {q r:Rat},Dn 2 (L.length*81648) q->Dn 2 11664 r->Dn 2 ((L++[y]).length*81648) (q+r*(y.2.1:Rat)):=fun hq hr=>by
   refine (hq.add (hr.mul (Akk hw))).mono ?_;rw[A0z,A1o];simp
  rw[F5];exact⟨fun e f=>by rw[Vv];exact add (i1.c e f) (one.c e f),fun e=>by rw[T2];exact add (i1.r e) (one.r e),add i1.l one.l⟩
theorem Aoh (hF:Dk T F lab)(h1:-1<=lab)(h2:∀ l:Nat,lab=(l:Int)->l<T.length)(z:Option Par->Rat)(P:List Par):∀ {L:List E7},(∀ y∈L,Cr T y.1)->0<=sqC z P (C8 F lab L):=by
 intro L;induction L using Iv with
 |h0=>exact fun _=>by show 0<=sqC z P (CF.num 0);rw[Ans.sq z P];exact Rat.le_refl
 |h1 L y ih =>
  intro h;have i1:=ih fun z hz=>h z (A24 _ hz);have hy:=h y mV;have hlen:=hy.len;rw[F5,Alu];rcases L9 hF hy h1 (fun l hl=>by have:=h2 l hl;omega) with ⟨_,o⟩|⟨_,o⟩
  ·rw[o.sq];generalize (cfT F lab y.1).s Aq-Ua z P (cfT F lab y.1).s=v;have hw:(0:Rat)<=(y.2.1:Rat):=by
    have:((0:Nat):Rat)<=(y.2.1:Rat):=A5k.2 (A1m _);exact this
   have hv:0<=v*v:=by
    rcases A8c (a:=0) (b:=v) with h|h
    ·exact A2f h h
    ·have:=A2f (a:=-v) (b:=-v) (by grind) (by grind);grind
   have:=A2f hv hw;grind
  ·rw[o.sq];grind
end
section
variable {α:Type}
theorem Acq (l:List α)(d:α):l=(A1q l.length).map fun j=>l.getD j d:=by
 refine List.ext_getElem mV fun j h1 h2=>?_;simp[A0o,A0n h1]
theorem R3 (f:α->Rat)(l:List α)(d:α):Au f l=Dm l.length fun j=>f (l.getD j d):=by
 unfold Dm;rw[<-On (f:=f) (fun j=>l.getD j d),<-Acq]
theorem Y4 (n:Nat)(f g:Nat->Rat):Dm n (fun i=>f i+g i)=Dm n f+Dm n g:=D1 _
theorem Aac {n i:Nat}(t:Rat)(y:Nat->Rat):Dm n (fun j=>(if i=j/\0<i then t else 0)*y j)=if i<n/\0<i then t*y i else 0:=by
 induction n with
 |zero=>rw[Pb,if_neg oV]
 |succ n ih =>
  rw[F0,ih];by_cases h0:0<i
  ·by_cases h1:i<n
   ·rw[if_pos ⟨h1,h0⟩,if_neg oV,if_pos ⟨oV,h0⟩];grind
   ·by_cases h2:i=n
    ·rw[if_neg oV,if_pos ⟨h2,h0⟩,if_pos ⟨oV,h0⟩,h2];grind
    ·rw[if_neg oV,if_neg oV,if_neg oV];grind
  ·rw[if_neg oV,if_neg oV,if_neg oV];grind
section
variable {P:List Par} {C:CF} {b:Option Par->Rat} {k:Rat} {N:Nat}
theorem Ady (hc:G5 N C)(hN:N<=489888)(hP:P.length<=11)(hk:∃ p:Int,k*30=p/\p.natAbs<=90)(hk0:0<k)(hcp:0<C.c)(hpsd:∀ z,0<=Bm z P C)(h:Fv P C k b) :
 ∃ D:Nat,0<D/\D<10^103/\∀ e∈Ak P,∃ z:Int,b e*(D:Rat)=z:=by
 obtain⟨p,hp,hp90⟩:=hk;have hlen:=Bo P;obtain⟨E,hE⟩:∃ E,E=Ak P:=⟨_,rfl⟩;rw[<-hE]at hlen;have hem:∀ i,i<P.length+1->E.getD i none∈Ak P:=fun i hi=>by
  rw[<-hE,A0o,A0n oV];exact A04 _
 have hpos:∀ i,i<P.length+1->0<i->∃ q,E.getD i none=some q:=fun i hi h0=>by
  obtain⟨j,rfl⟩:∃ j,i=j+1:=⟨i-1,oV⟩;rw[hE];unfold Ak;rw[A5b,A0o,A0v,A0n oV];exact⟨_,rfl⟩
 have h0:E.getD 0 none=none:=by rw[hE];rfl
 have hsum:∀ (f:Option Par->Rat),Au f (Ak P)=Dm (P.length+1) fun j=>f (E.getD j none):=fun f=>by rw[R3 f _ none,<-hE,hlen]
 have hcz:∀ e f,∃ z:Int,As C e f*144=z/\z.natAbs<=N:=fun e f=>by
  obtain⟨z,h1,h2⟩:=hc.c e f;exact⟨z,by rw[<-h1];congr 1,h2⟩
 have hrz:∀ e,∃ z:Int,Ay C e*144=z:=fun e=>by
  obtain⟨z,h1,h2⟩:=hc.r e;exact⟨z,by rw[<-h1];congr 1⟩
 generalize hZ:(fun e f=>(hcz e f).choose)=Z;have hZ:∀ e f,As C e f*144=Z e f/\(Z e f).natAbs<=N:=fun e f=>by rw[<-hZ];exact (hcz e f).choose_spec
 have hA:∀ i j,((Z (E.getD i none) (E.getD j none)*30+(if i=j/\0<i then p*144 else 0):Int):Rat)=4320*As C (E.getD i none) (E.getD j none)+(if i=j/\0<i then 4320*k else 0):=fun i j=>by
  have h1:=(hZ (E.getD i none) (E.getD j none)).1;rw[A48,A23,<-h1];split
  ·rw[A23,<-hp];simp;grind
  ·simp;grind
 have hrow:∀ (y:Option Par->Rat) i,i<P.length+1->Dm (P.length+1) (fun j=>((Z (E.getD i none) (E.getD j none)*30+(if i=j/\0<i then p*144 else 0):Int):Rat)*y (E.getD j none))=4320*(Au (fun f=>As C (E.getD i none) f*y f) (Ak P)+Kp k y (E.getD i none)):=fun y i hi=>by
  rw[Er (g:=fun j=>4320*(As C (E.getD i none) (E.getD j none)*y (E.getD j none))+(if i=j/\0<i then 4320*k else 0)*y (E.getD j none)) fun j _=>by rw[hA];grind,Y4,Nr,Aac (4320*k) fun j=>y (E.getD j none),<-hsum fun f=>As C (E.getD i none) f*y f];by_cases h0i:0<i
  ·obtain⟨q,hq⟩:=hpos i hi h0i;rw[if_pos ⟨hi,h0i⟩,hq];unfold Kp;grind
  ·rw[if_neg oV,show i=0 by omega,h0];unfold Kp;grind
 obtain⟨D,hD0,hD,hDz⟩:=Akr (n:=P.length+1) (M:=14709600) (A:=fun i j=>Z (E.getD i none) (E.getD j none)*30+(if i=j/\0<i then p*144 else 0)) (x:=fun j=>b (E.getD j none))
  (fun i j _ _=>by
   have:=(hZ (E.getD i none) (E.getD j none)).2;split<;>omega)
  (fun i hi=>by
   obtain⟨z,hz⟩:=hrz (E.getD i none);exact⟨z*30,by rw[hrow b i hi,h _ (hem i hi),A23,<-hz];simp;grind⟩)
  (fun g hg j hj=>Aji (z:=fun e=>g (b e)) hk0 hcp hpsd (fun e he=>by
   obtain⟨i,hi,rfl⟩:=A19 he;have hi':i<P.length+1:=by rw[<-hlen,hE];exact hi
   have h1:=hg i hi';rw[hrow (fun e=>g (b e)) i hi']at h1;have e1:E.getD i none=(Ak P)[i]:=by rw[hE,A0o,A0n hi];rfl
   rw[e1]at h1;rcases A6c.1 h1 with h2|h2
   ·exact absurd h2 jV
   ·exact h2) _ (hem j hj))
 refine⟨D,hD0,A2q hD ?_,fun e he=>?_⟩
 ·have h1:2*((P.length+1)*14709600)+1<=353030401:=oV
  refine A2q (A0q (Nat.pow_le_pow_left h1 _) (A1l (n:=353030401) oV (show P.length+1<=12 by omega))) jV
 ·obtain⟨i,hi,rfl⟩:=A19 he;have hi':i<P.length+1:=by rw[<-hlen,hE];exact hi
  have e1:E.getD i none=(Ak P)[i]:=by rw[hE,A0o,A0n hi];rfl
  have:=hDz i hi';rwa[e1]at this
theorem Ank {x:Rat}{m:Rat}(h0:0<=m)(h:x*x<=m*m):-m<=x/\x<=m:=by
 constructor
 ·refine A99.1 fun hl=>?_;have:=Bbe (a:=-x-m) (b:=-x+m) (by grind) (by grind);grind
 ·refine A99.1 fun hl=>?_;have:=Bbe (a:=x-m) (b:=x+m) (by grind) (by grind);grind
theorem Xu {q:Rat}(h:Dn 2 N q)(hN:N<=489888):-3402<=q/\q<=3402:=by
 obtain⟨z,h1,h2⟩:=h;have e:((12^2:Nat):Rat)=144:=jV
 rw[e]at h1;have a1:((z:Int):Rat)<=((489888:Int):Rat):=A3t.2 oV;have a2:(((-489888:Int)):Rat)<=(z:Rat):=A3t.2 oV;rw[show ((489888:Int):Rat)=489888 by decide +kernel]at a1;rw[show ((-489888:Int):Rat) = -489888 by decide +kernel]at a2;constructor<;>grind
theorem Aek:∀ {P:List Par} {p:Par},p∈P->b (some p)*b (some p)<=G9 P b
 |q::P,p,hp=>by
  have nn:∀ r:Par,0<=b (some r)*b (some r):=fun r=>by
   rcases A8c (a:=0) (b:=b (some r)) with h|h
   ·exact A2f h h
   ·have:=A2f (a:=-b (some r)) (b:=-b (some r)) (by grind) (by grind);grind
  have e:G9 (q::P) b=b (some q)*b (some q)+G9 P b:=rfl;have h1:=Rn P b;have h2:=nn q;rw[e];rcases A02.1 hp with rfl|hp
  ·grind
  ·have:=Aek hp;grind
theorem Zp {α:Type}{f:α->Rat}{m:Rat}:∀ {l:List α},(∀ a∈l,-m<=f a/\f a<=m)->-((l.length:Rat)*m)<=Au f l/\Au f l<=(l.length:Rat)*m
 |[],_=>by show -(((0:Nat):Rat)*m)<=0/\0<=((0:Nat):Rat)*m;rw[show ((0:Nat):Rat)=0 from rfl];constructor<;>grind
 |a::l,h=>by
  have h1:=h a (List.mem_cons_self ..);have h2:=Zp fun x hx=>h x (List.mem_cons_of_mem _ hx);have e:Au f (a::l)=f a+Au f l:=rfl;rw[e,A2n,Rat.natCast_add,show ((1:Nat):Rat)=1 from rfl];constructor<;>grind
theorem Ali (hc:G5 N C)(hN:N<=489888)(hP:P.length<=11)(hk:∃ p:Int,k*30=p/\p.natAbs<=90)(hk0:0<k)(hcp:1<=C.c)(hpsd:∀ z,0<=Bm z P C)(hsq:0<=sqC b P C)(h:Fv P C k b) :
 ∀ e∈Ak P,-20000000<=b e/\b e<=20000000:=by
 obtain⟨p,hp,hp90⟩:=hk;have hl:=h.least (Ba0 hk0) hpsd fun _=>0;have e0:sqC (fun _=>0) P C=C.t (Ap Aq Aq):=by
  unfold sqC;rw[Aau P C fun _=>rfl,Bv fun e _=>Rat.zero_mul _];grind
 have e1:G9 P (fun _=>0)=0:=Bv fun p _=>Rat.mul_zero _;rw[e0,e1]at hl;have hll:=(Xu hc.l hN).2;have hk1:1<=k*30:=by
  rw[hp];have h1:((0:Int):Rat)<(p:Rat):=by rw[<-hp];show 0<k*30;exact Bbe hk0 jV
  have h2:(0:Int)<p:=Rat.intCast_lt_intCast.1 h1;exact (A3t (a:=1) (b:=p)).2 oV
 have hs0:=Rn P b;have hs:G9 P b<=102060:=by
  have:=A2f (a:=k*30-1) (b:=G9 P b) (by grind) hs0;grind
 have hbp:∀ q∈P,-320<=b (some q)/\b (some q)<=320:=fun q hq=>by
  have h1:=Aek (b:=b) hq;have e:(320:Rat)*320=102400:=jV
  exact Ank jV (by grind)
 have hn:b none*C.c=C.s Aq-Au (fun q=>C.s q*b (some q)) P:=by
  have h1:=h none (by unfold Ak;simp);rw[Gf]at h1;have c1:As C none none=C.c:=rfl;have c2:Ay C none=C.s Aq:=rfl;have c3:Au (fun q=>As C none (some q)*b (some q)) P=Au (fun q=>C.s q*b (some q)) P:=rfl;rw[c1,c2,c3]at h1;unfold Kp at h1;grind
 have hsum:=Zp (f:=fun q=>C.s q*b (some q)) (m:=1088640) (l:=P) fun q hq=>by
  have h1:=Xu (hc.c none (some q)) hN;have c1:As C none (some q)=C.s q:=rfl;rw[c1]at h1;have h2:=hbp q hq;generalize C.s q=s at h1;generalize b (some q)=t at h2;have a1:=A2f (a:=3402-s) (b:=320+t) (by grind) (by grind);have a2:=A2f (a:=3402+s) (b:=320-t) (by grind) (by grind);have a3:=A2f (a:=3402-s) (b:=320-t) (by grind) (by grind);have a4:=A2f (a:=3402+s) (b:=320+t) (by grind) (by grind);constructor<;>grind
 have hlen:((P.length:Nat):Rat)<=11:=(A5k (a:=P.length) (b:=11)).2 hP;have hlab:=Xu (hc.r none) hN;have c2:Ay C none=C.s Aq:=rfl;rw[c2]at hlab;have hnn:-20000000<=b none/\b none<=20000000:=by
  generalize Au (fun q=>C.s q*b (some q)) P=S at hn hsum;generalize ((P.length:Nat):Rat)=L at hlen hsum;have hcc:-20000000<=b none*C.c/\b none*C.c<=20000000:=by rw[hn];constructor<;>grind
  generalize b none=x at hcc;generalize C.c=c at hcc hcp;constructor
  ·refine A99.1 fun hl=>?_;have:=A2f (a:=-x) (b:=c-1) (by grind) (by grind);grind
  ·refine A99.1 fun hl=>?_;have:=A2f (a:=x) (b:=c-1) (by grind) (by grind);grind
 intro e he;unfold Ak at he;rcases A02.1 he with rfl|he
 ·exact hnn
 ·obtain⟨q,hq,rfl⟩:=A0u.1 he;have:=hbp q hq;constructor<;>grind
end
end
section
def IsZ (q:Rat):Prop:=∃ z:Int,q=z
theorem Amy {q:Rat}{D m a b:Nat}(h0:0<D)(hD:D<10^b)(hz:IsZ (q*(D:Rat)))(hm:-(m:Rat)<=q/\q<=m)(ha:m*10^b<10^a):De a b q:=by
 obtain⟨z,e⟩:=hz;refine⟨z,D,e,h0,?_,hD⟩;have hd:(0:Rat)<=(D:Rat):=(A5k (a:=0) (b:=D)).2 (A1m _);have h1:(z:Rat)<=(((m*D:Nat):Int):Rat):=by
  rw[A2j,A6b,<-e];have:=A2f (a:=(m:Rat)-q) (b:=(D:Rat)) (by grind) hd;grind
 have h2:((-((m*D:Nat):Int):Int):Rat)<=(z:Rat):=by
  rw[Rat.intCast_neg,A2j,A6b,<-e];have:=A2f (a:=q+(m:Rat)) (b:=(D:Rat)) (by grind) hd;grind
 have h1:=A3t.1 h1;have h2:=A3t.1 h2;have h3:m*D<=m*10^b:=Nat.mul_le_mul_left _ (Nat.le_of_lt hD);omega
section
variable {P:List Par} {C:CF} {b:Option Par->Rat} {k:Rat} {N D:Nat}
theorem Ao6 (hD0:0<D)(hD:D<10^103)(hz:∀ e∈Ak P,∃ z:Int,b e*(D:Rat)=z)(hm:∀ e∈Ak P,-20000000<=b e/\b e<=20000000):∀ e∈Ak P,De 111 103 (b e):=fun e he =>
 Amy (m:=20000000) hD0 hD (hz e he) (hm e he) jV
end
end
section
variable {k:Nat}{s:Src}{ts:List Int}{u:PH}
theorem Ajg {v:Value}{L:List (List UInt8)}(h:Aq7 u s ts)(hk:k<=s.n)(hL:Ab u v 1 (L.map nmV))(hn0:0<L.length)(hn2:L.length<=1000000) :
 Ai prog 50 [s.ptr,v] u (s.M k) fun v _ m'=>∃ t∈L,∃ k':Nat,v=.string (mkS t)/\k'<=s.n/\m'=s.M k':=by
 obtain⟨a,c,rfl⟩:=hL.opn;rw[A0p]at hL⊢;refine Ai.o func50 ?_;refine G.A call73 (Ia h hk hn0 hn2) ?_;rintro v1 u1 m1 l1 ⟨r,k',rfl,hr,hk',rfl⟩ _;rw[C2];obtain⟨b,off,rfl,e⟩:=Ab.at' (hL.mono l1) (j:=r) (e:=.string (mkS L[r])) (by simp[nmV,A0n hr]);refine G.a b off L.length c r 1 hr ?_;refine G.lU none b (off+r*1) (.string (mkS L[r])) e ?_;exact G.r _ ⟨L[r],A04 hr,k',rfl,hk',rfl⟩
structure Kl (q:Rat):Prop where
 pos:0<q
 thirty:∃ p:Int,q*30=p/\p.natAbs<=90
 tx:Tx q
theorem Ak0:∀ t∈[[49],[49,47,50],[51],[49,47,49,48],[55,47,51]],∃ q:Rat,t=Af q/\Kl q:=by
 intro t ht;simp only[A02,A14,or_false]at ht;rcases ht with rfl|rfl|rfl|rfl|rfl
 ·exact⟨1,jV,jV,⟨30,jV,fV⟩,jV,jV⟩
 ·exact⟨1/2,jV,jV,⟨15,jV,fV⟩,jV,jV⟩
 ·exact⟨3,jV,jV,⟨90,jV,fV⟩,jV,jV⟩
 ·exact⟨1/10,jV,jV,⟨3,jV,fV⟩,jV,jV⟩
 ·exact⟨7/3,jV,jV,⟨70,jV,fV⟩,jV,jV⟩
theorem Y7 (h:Aq7 u s ts)(hk:k<=s.n) :
 Ai prog 12 [s.ptr] u (s.M k) fun v _ m'=>∃ (q:Rat) (k':Nat),v=.string (mkS (Af q))/\Kl q/\k'<=s.n/\m'=s.M k':=by
 refine Ai.o func12 ?_;refine G.B 9 1 16 (.string (mkS [])) ([[49],[49,47,50],[51],[49,47,49,48],[55,47,51]].map nmV) (G4 _) ?_;intro g u1 l1 e1;refine G.A call50 (Ajg (L:=[[49],[49,47,50],[51],[49,47,49,48],[55,47,51]]) (h.mono l1) hk e1.listP mV mV) ?_;rintro v2 u2 m2 l2 ⟨t,ht,k',rfl,hk',rfl⟩ _;rw[C2];obtain⟨q,rfl,hq⟩:=Ak0 t ht;exact G.r (.string (mkS (Af q))) ⟨q,k',rfl,hq,hk',rfl⟩
end
section
end
section
variable {m m0:PH}
def E8 (r:Value×List Value):Arr:=⟨r.1,33,1,r.2⟩
def oT (v:Value)(rows:List (Value×List Value)):Arr:=⟨v,84,1,rows.map (·.1)⟩
theorem Mb {r:Value×List Value}:(E8 r).At m0 m=Ae m0 m r.1 33 1 r.2:=rfl
theorem Amu {v:Value}{rows:List (Value×List Value)}:(oT v rows).At m0 m=Ae m0 m v 84 1 (rows.map (·.1)):=rfl
def txV (l:List Rat):List Value:=l.map fun q=>.string (mkS (Af q))
theorem Fu (l:List Rat):(txV l).length=l.length:=by simp[txV]
theorem Sl (l:List Rat)(q:Rat):txV l++[.string (mkS (Af q))]=txV (l++[q]):=by simp[txV]
theorem Jp (q:Rat):A3 1 [.string (mkS (Af q))]:=Cu [Af q]
theorem Zk (l:List Rat):txV l=Cs (l.map Af):=by simp[txV,Cs]
def M8 (C:CF)(P:List Par):List (List Rat):=(Ak P).map fun e=>(Ak P).map (As C e)
theorem Hg {P:List Par}{i:Nat}:(Ak P).take (i+1)=none::(P.take i).map some:=by unfold Ak;rw[List.take_succ_cons,List.map_take]
end
section
variable {X:List (List Rat)}{c i n:Nat}{m:PH}{rows:List (Value×List Value)}{s:Arr}{v:Value}
theorem N0 {s o:Arr}{r:Value×List Value}(h:rows[i]?=some r):(s::o::rows.map E8)[i+2]?=some (E8 r):=by simp[h]
theorem Aoe {x:Value}{es es':List Value}(h:rows[i]?=some (x,es)):oT v (rows.set i (x,es'))=oT v rows:=by
 unfold oT
 congr 1
 rw[A27];exact Ti (by rw[A0v,h];rfl)
theorem Ap3 {g n c i:Nat}(hbag:Bag m (s::oT (.slice (some ⟨g,0,none⟩) n c) rows::rows.map E8))(hr:rows.map (·.2)=X.map txV)(hX:Rec n n X)(hi:i<n) :
 ∃ gi ci,rows[i]?=some (.slice (some ⟨gi,0,none⟩) n ci,txV (gM X i))/\ElP m g (0+i*1) (.slice (some ⟨gi,0,none⟩) n ci)/\∀ j,j<n->ElP m gi (0+j*1) (.string (mkS (Af (gR (gM X i) j)))):=by
 have hrl:rows.length=n:=by have:=congrArg A35 hr;simpa[hX.1] using this
 have hri:rows[i]?=some rows[i]:=A0n oV;obtain⟨⟨vi,ei⟩,he⟩:∃ x,rows[i]=x:=⟨_,rfl⟩;rw[he]at hri;have hei:ei=txV (gM X i):=by
  have h1:(rows.map (·.2))[i]?=some ei:=by rw[A0v,hri];rfl
  have hxi:i<X.length:=by rw[hX.1];exact hi
  rw[hr,A0v,A0n hxi]at h1;rw[N6 hxi];simpa using h1.symm
 subst hei;have hel:(txV (gM X i)).length=n:=by rw[Fu,hX.2 i hi]
 obtain⟨gi,ci,e⟩:=hbag.ptr (i+2) (N0 hri) (by intro e;simp only[E8]at e;rw[e]at hel;simp at hel;omega);simp only[E8]at e;rw[hel]at e;subst e;refine⟨gi,ci,hri,hbag.el 1 (x:=oT _ rows) rfl rfl (by show (rows.map (·.1))[i]?=_;rw[A0v,hri];rfl),fun j hj=>?_⟩;have hjl:j<(gM X i).length:=by rw[hX.2 i hi];exact hj
 exact hbag.el (i+2) (x:=E8 _) (N0 hri) rfl (by show (txV (gM X i))[j]?=_;unfold txV;rw[A0v,A0n hjl,Mj hjl];rfl)
theorem Aku {m u:PH}{v:Value}{a:Option Addr}(hbag:Bag m (s::oT (.slice a n c) rows::rows.map E8))(hr:rows.map (·.2)=X.map txV)(hm:PH.le m u):N7 u (.slice a n c) (Jx X):=by
 obtain⟨m0,h0,_⟩:=hbag.focus 1 rfl;have hrl:rows.length=X.length:=by have:=congrArg A35 hr;simpa using this
 rw[Amu]at h0;refine⟨rows.map (·.1),h0.list hm,by simp[Jx,hrl],fun j r hj=>?_⟩;unfold Jx at hj;rw[A0v]at hj;cases hx:X[j]? with
 |none=>rw[hx]at hj;cases hj
 |some x =>
  rw[hx]at hj;simp only[Option.map_some,A0t]at hj;subst hj;obtain⟨hjl,_⟩:=A0s.1 hx;have hri:rows[j]?=some rows[j]:=A0n oV;obtain⟨⟨vi,ei⟩,he⟩:∃ x,rows[j]=x:=⟨_,rfl⟩;rw[he]at hri;have hei:ei=txV x:=by
   have h1:(rows.map (·.2))[j]?=some ei:=by rw[A0v,hri];rfl
   rw[hr,A0v,hx]at h1;simpa using h1.symm
  subst hei;obtain⟨m1,h1,_⟩:=hbag.focus (j+2) (N0 hri);rw[Mb]at h1;obtain⟨a1,c1,e1⟩:=h1.shape;simp only at e1;subst e1;have h2:=h1.list hm;simp only[Fu]at h2;refine⟨a1,c1,by rw[A0v,hri];simp[Fu],?_⟩;rw[A0p];unfold Fe;rw[<-Zk];exact h2
def Gl (q:Rat)(X:List (List Rat)):Nat->List (List Rat)
 |0=>X
 |1=>X
 |i+2=>(Gl q X (i+1)).set (i+1) ((gM (Gl q X (i+1)) (i+1)).set (i+1) (gR (gM (Gl q X (i+1)) (i+1)) (i+1)+q))
theorem Asg {q:Rat}{X:List (List Rat)}{n:Nat}(hX:Rec n n X):∀ i,i<=n->Rec n n (Gl q X i)
 |0,_=>hX
 |1,_=>hX
 |i+2,h=>by
  have ih:=Asg hX (q:=q) (i+1) oV;exact Ib ih oV (by rw[A3u,ih.2 (i+1) oV])
theorem Xd {q:Rat}{X:List (List Rat)}{n:Nat}(hX:Rec n n X):∀ i,i<=n->∀ a b,a<n->b<n->en (Gl q X i) a b=en X a b+if a=b/\0<a/\a<i then q else 0
 |0,_,a,b,_,_=>by rw[if_neg oV];show en X a b=en X a b+0;grind
 |1,_,a,b,_,_=>by rw[if_neg oV];show en X a b=en X a b+0;grind
 |i+2,h,a,b,ha,hb=>by
  have ih:=Xd hX (q:=q) (i+1) oV a b ha hb;have hr:=Asg hX (q:=q) (i+1) oV;have hl:i+1<(gM (Gl q X (i+1)) (i+1)).length:=by rw[hr.2 (i+1) oV];omega
  show gR (gM ((Gl q X (i+1)).set (i+1) _) a) b=_;rw[Ka (by rw[hr.1];omega)];by_cases e1:i+1=a
  ·rw[if_pos e1,Aoj hl];by_cases e2:i+1=b
   ·subst e1;subst e2;rw[if_pos rfl,if_pos ⟨rfl,oV,oV⟩];rw[if_neg oV]at ih;show en (Gl q X (i+1)) (i+1) (i+1)+q=_;rw[ih];grind
   ·subst e1;rw[if_neg e2,if_neg oV];rw[if_neg oV]at ih;exact ih
  ·rw[if_neg e1];show en (Gl q X (i+1)) a b=_;rw[ih];by_cases e3:a=b/\0<a/\a<i+1
   ·rw[if_pos e3,if_pos oV]
   ·rw[if_neg e3,if_neg oV]
theorem Anc {r:List Rat}(h:X[i]?=some r):gM X i=r:=by unfold gM;rw[A0o,h];rfl
theorem Ads {l:List Rat}{r:Rat}(h:l[i]?=some r):gR l i=r:=by unfold gR;rw[A0o,h];rfl
theorem Adz (C:CF)(P:List Par)(hi:i<P.length+1):gM (M8 C P) i=(Ak P).map (As C ((Ak P).getD i none)):=by
 have hi':i<(Ak P).length:=by rw[Bo];exact hi
 refine Anc ?_;unfold M8;rw[A0v,A0n hi',A0o,A0n hi'];rfl
theorem Rt (C:CF)(P:List Par):Rec (P.length+1) (P.length+1) (M8 C P) :=
 ⟨by unfold M8;rw[A0p,Bo],fun i hi=>by rw[Adz C P hi,A0p,Bo]⟩
theorem Adr (C:CF)(P:List Par){i j:Nat}(hi:i<P.length+1)(hj:j<P.length+1):en (M8 C P) i j=As C ((Ak P).getD i none) ((Ak P).getD j none):=by
 have hj':j<(Ak P).length:=by rw[Bo];exact hj
 unfold en;rw[Adz C P hi];refine Ads ?_;rw[A0v,A0o (l:=Ak P) (i:=j),A0n hj'];rfl
theorem Kl.de {q:Rat}(h:Kl q):De 2 2 q:=by
 obtain⟨p,h1,h2⟩:=h.thirty;exact⟨p,30,h1,oV,oV,oV⟩
end
section
structure Tq (q:Rat):Prop where
 tx:Tx q
 den:q.den ∣ 4320
 num:q.num.natAbs<=15000000
theorem nlM {n:Nat}(h:n<1000000000000000000):nl n<=2:=A4 (by simpa using h)
end
section
def Abv (n:Nat)(X:List (List Rat))(y:Nat->Rat):Prop:=∀ i,i<n->Dm n (fun j=>en X i j*y j)=en X i n
end
section
variable {A:List (List Rat)}{b l:List Rat}{i j:Nat}{q:Rat}
theorem Apn {m0 m:PH}{v:Value}{t:TypeId}{sz:Nat}{es:List Value}(h:Ae m0 m v t sz es):PH.le m0 m:=by
 rcases h.2 with ⟨_,_,rfl⟩|⟨g,cap,rest,hg0,rfl,_⟩
 ·exact PH.le_refl _
 ·exact Jw _ hg0
def Nh (A:List (List Rat))(b:List Rat):List (List Rat):=(A1q A.length).map fun i=>gM A i++[gR b i]
theorem V8 (h:i<A.length):gM (Nh A b) i=gM A i++[gR b i]:=by
 unfold Nh;rw[Anc (r:=gM A i++[gR b i])];rw[A0v,A52 h];rfl
theorem Aof (h:j<l.length):gR (l++[q]) j=gR l j:=by
 unfold gR;rw[A0o,A0o,A1d h]
theorem Al1 (h:j=l.length):gR (l++[q]) j=q:=by
 subst h;unfold gR;rw[A0o,A1s (A0w _)];simp
theorem Ahx (hs:Sq A)(hi:i<A.length)(hj:j<A.length):en (Nh A b) i j=en A i j:=by
 unfold en;rw[V8 hi,Aof (by rw[N6 hi,hs.len hi];exact hj)]
theorem Anf (hs:Sq A)(hi:i<A.length):en (Nh A b) i A.length=gR b i:=by
 unfold en;rw[V8 hi,Al1 (by rw[N6 hi,hs.len hi])]
end
section
variable {S:List (List Int)}{i j:Nat}{l:List Int}{q v:Int}
theorem Aun {q:Rat}{D:Nat}(h:q.den ∣ D):((q.num*((D/q.den:Nat):Int):Int):Rat)=q*(D:Rat):=by
 obtain⟨k,rfl⟩:=h;rw[Nat.mul_div_cancel_left _ q.den_pos,A23,A6b,A2j];have h2:q*(q.den:Rat)=(q.num:Rat):=by
  have h2:q=(q.num:Rat)/(((q.den:Int)):Rat):=by rw[<-A4h,A66]
  have hi:=A8u _ (Pr q.den_pos);rw[A2j,A7l]at h2;exact Aqa h2 hi
 rw[<-h2];grind
theorem Aul {D:Nat}{r:List Rat}(hj:j<r.length):gZ (Q4 D r) j=(gR r j).num*((D/(gR r j).den:Nat):Int):=by
 unfold Q4;rw[Atp (by simpa using hj),A4r,Mj hj]
theorem Ax9 (h:j<l.length):gZ (l++[q]) j=gZ l j:=by
 unfold gZ;rw[A0o,A1d h,A0o]
theorem Avt (h:j=l.length):gZ (l++[q]) j=q:=by
 subst h;unfold gZ;simp[A0o]
def Aq8 (A:List (List Rat))(b:List Rat)(D D':Nat):List (List Int):=(A1q A.length).map fun i=>Q4 D (gM A i)++[(gR b i).num*((D' / (gR b i).den:Nat):Int)]
theorem Ase {A:List (List Rat)}{b:List Rat}{D D' i:Nat}(h:i<A.length):gMZ (Aq8 A b D D') i=Q4 D (gM A i)++[(gR b i).num*((D' / (gR b i).den:Nat):Int)]:=by
 unfold Aq8;rw[Ar7 (by simpa using h)];simp
theorem Axq {A:List (List Rat)}{b:List Rat}{D D':Nat}(hs:Sq A):Aqv A.length (A.length+1) (Aq8 A b D D') :=
 ⟨by simp[Aq8],fun i hi=>by rw[Ase hi,A0z,Q4,A0p,N6 hi,hs.len hi];rfl⟩
structure Axr (A:List (List Rat))(b:List Rat)(D D':Nat):Prop where
 d0:0<D
 d1:0<D'
 a:∀ r∈A,∀ q∈r,q.den ∣ D
 b:∀ q∈b,q.den ∣ D'
theorem Ax7 {A:List (List Rat)}(h:i<A.length):gM A i∈A:=by rw[N6 h];exact A04 h
section
variable {A:List (List Rat)} {b:List Rat} {D D':Nat}
theorem Av6 (hs:Sq A)(h:Axr A b D D')(hi:i<A.length)(hj:j<A.length):(enZ (Aq8 A b D D') i j:Rat)=en A i j*(D:Rat):=by
 have hl:(gM A i).length=A.length:=by rw[N6 hi];exact hs.len hi
 unfold enZ;rw[Ase hi,Ax9 (by simp[Q4,hl,hj]),Aul oV];exact Aun (h.a _ (Ax7 hi) _ (At3 oV))
theorem Azl (hs:Sq A)(hbl:b.length=A.length)(h:Axr A b D D')(hi:i<A.length):(enZ (Aq8 A b D D') i A.length:Rat)=gR b i*(D':Rat):=by
 have hl:(gM A i).length=A.length:=by rw[N6 hi];exact hs.len hi
 unfold enZ;rw[Ase hi,Avt (by simp[Q4,hl])];exact Aun (h.b _ (At3 oV))
theorem Ata (f:Nat->Int):∀ n:Nat,((Aqe n f:Int):Rat)=Dm n (fun j=>(f j:Rat))
 |0=>by rw[Pb];rfl
 |n+1=>by rw[Aqe,A48,Ata f n,F0]
def qsZ (n:Nat)(S:List (List Int))(v:Int)(D D':Nat):List Rat:=(A1q n).map fun j=>A2m (enZ S j n*(D:Int)) (v*(D':Int))
theorem Aw5 {n:Nat}(hj:j<n):gR (qsZ n S v D D') j=A2m (enZ S j n*(D:Int)) (v*(D':Int)):=by
 unfold qsZ;exact Anj _ hj
theorem Ayh (hs:Sq A)(hbl:b.length=A.length)(h:Axr A b D D')(hv:v≠0)(hS:∀ i,i<A.length->∀ k,Aqe A.length (fun j=>enZ S j k*enZ (Aq8 A b D D') i j)=v*enZ (Aq8 A b D D') i k) :
 Abv A.length (Nh A b) (gR (qsZ A.length S v D D')):=by
 intro i hi;have e:=congrArg (fun z:Int=>(z:Rat)) (hS i hi A.length);simp only[Ata,A23]at e;rw[Azl hs hbl h hi]at e;rw[Anf hs hi];have hv':(v:Rat)≠0:=fun e=>hv (Bbx.1 (by rw[e];rfl));have hd':(D':Rat)≠0:=Pr (by have:=h.d1;omega);have e2:Dm A.length (fun j=>en (Nh A b) i j*gR (qsZ A.length S v D D') j)=Dm A.length (fun j=>(enZ S j A.length:Rat)*(enZ (Aq8 A b D D') i j:Rat))*((1/((v:Rat)*(D':Rat)))):=by
  rw[Rat.mul_comm,<-Nr];refine Er fun j hj=>?_;rw[Ahx hs hi hj,Aw5 hj,Av6 hs h hi hj,A4h,A23,A23,A2j,A2j,A7l,A7l];grind
 rw[e2,e];have:(v:Rat)*(D':Rat)≠0:=fun e=>(A6c.1 e).elim hv' hd';rw[A7l,Rat.one_mul];generalize hw:(v:Rat)*(D':Rat)=w at *
 have e3:(v:Rat)*(gR b i*(D':Rat))=gR b i*w:=by rw[<-hw];grind
 rw[e3,Rat.mul_assoc,A8u _ this,Rat.mul_one]
theorem Az3 (hs:Sq A)(h:Axr A b D D')(hk:∀ y:Nat->Rat,(∀ i,i<A.length->Dm A.length (fun j=>en A i j*y j)=0)->∀ j,j<A.length->y j=0):¬ Ker A.length (enZ (Aq8 A b D D')):=by
 rintro⟨y,⟨j,hj,hy⟩,h0⟩;have hd:(D:Rat)≠0:=Pr (by have:=h.d0;omega);refine hy ?_;have:=hk (fun j=>(y j:Rat)) (fun i hi=>?_) j hj
 ·exact Bbx.1 (by rw[this];rfl)
 ·have e:=congrArg (fun z:Int=>(z:Rat)) (h0 i hi);simp only[Ata,A23]at e;have e2:Dm A.length (fun j=>(y j:Rat)*(enZ (Aq8 A b D D') i j:Rat))=(D:Rat)*Dm A.length (fun j=>en A i j*(y j:Rat)):=by
   rw[<-Nr];exact Er fun j hj=>by rw[Av6 hs h hi hj];grind
  rw[e2]at e;rcases A6c.1 e with e|e
  ·exact absurd e hd
  ·exact e
end
end
section
variable {i j:Nat}{qs:List Rat}{z:Int}
theorem Ag7 {q:Rat}{D:Nat}(h:q*(D:Rat)=(z:Rat))(h0:0<D):q.den ∣ D/\q.num.natAbs<=z.natAbs:=by
 have hq:q=A2m z (D:Int):=by
  rw[A4h,A2j,<-h];have:=Pr h0;grind
 obtain⟨e1,e2,e3⟩:=Ju (y:=z) (z:=(D:Int)) oV;rw[hq];constructor
 ·have h2:((A2m z (D:Int)).den:Int)=((D/Nat.gcd z.natAbs D:Nat):Int):=by
   rw[e2,show ((D:Int)).natAbs=D from rfl,Int.tdiv_eq_ediv_of_nonneg oV,<-Int.natCast_ediv]
  rw[Int.ofNat.inj h2];exact Nat.div_dvd_of_dvd (Nat.gcd_dvd_right _ _)
 ·rw[e1,Int.natAbs_tdiv];exact A3v _ _
theorem Apw {q:Rat}(h:q*((4320:Nat):Rat)=(z:Rat))(hz:z.natAbs<=15000000):Tq q:=by
 obtain⟨h1,h2⟩:=Ag7 h oV;exact⟨De.tx (a:=8) (b:=4) ⟨z,4320,h,oV,oV,oV⟩ oV oV oV oV,h1,oV⟩
theorem Am6 {x t:Rat}{N:Nat}(h:Dn 2 N x)(hN:N<=489888)(ht:∃ p:Int,t*30=p/\p.natAbs<=90):Tq (x+t):=by
 obtain⟨z,h1,h2⟩:=h;obtain⟨p,h3,h4⟩:=ht;refine Apw (z:=z*30+p*144) ?_ oV;have e:((12^2:Nat):Rat)=144:=jV
 have e2:((4320:Nat):Rat)=4320:=jV
 have e3:((30:Int):Rat)=30:=jV
 have e4:((144:Int):Rat)=144:=jV
 rw[e]at h1;rw[A48,A23,A23,<-h1,<-h3,e2,e3,e4];grind
section
variable {P:List Par} {C:CF} {q:Rat} {N:Nat}
def Pu (C:CF)(P:List Par)(q:Rat):List (List Rat):=Gl q (M8 C P) (P.length+1)
def Y0 (C:CF)(P:List Par):List Rat:=(Ak P).map (Ay C)
theorem N4:Rec (P.length+1) (P.length+1) (Pu C P q):=Asg (Rt C P) _ (A0w _)
theorem Air (hi:i<P.length+1)(hj:j<P.length+1):en (Pu C P q) i j=As C ((Ak P).getD i none) ((Ak P).getD j none)+if i=j/\0<i then q else 0:=by
 unfold Pu;rw[Xd (Rt C P) _ (A0w _) i j hi hj,Adr C P hi hj];have:(if i=j/\0<i/\i<P.length+1 then q else 0)=if i=j/\0<i then q else 0:=by simp[hi]
 rw[this]
theorem Ah6:(Y0 C P).length=P.length+1:=by unfold Y0;rw[A0p,Bo]
theorem Aly (hi:i<P.length+1):gR (Y0 C P) i=Ay C ((Ak P).getD i none):=by
 have h1:=Bo P;refine Ads ?_;unfold Y0;rw[A0v,A0o,A0n oV];rfl
theorem Aix (hcd:G5 N C)(hN:N<=489888)(hq:Kl q):∀ r∈Pu C P q,∀ x∈r,Tq x:=by
 intro r hr x hx;have hA:=N4 (P:=P) (C:=C) (q:=q);obtain⟨i,hi,rfl⟩:=A2u.1 hr;obtain⟨j,hj,rfl⟩:=A2u.1 hx;have hi':i<P.length+1:=by have:=hA.1;omega
 have hj':j<P.length+1:=by have:=hA.2 i hi';rw[N6 hi]at this;omega
 have e:=Air (P:=P) (C:=C) (q:=q) hi' hj';unfold en at e;rw[N6 hi,Mj hj]at e;rw[e];refine Am6 (hcd.c _ _) hN ?_;split
 ·exact hq.thirty
 ·exact⟨0,jV,fV⟩
theorem Ahf (hcd:G5 N C)(hN:N<=489888)(hq:Kl q)(hP:P.length<=11):Sq (Pu C P q):=by
 have hA:=N4 (P:=P) (C:=C) (q:=q);refine⟨by rw[hA.1];omega,fun r hr=>?_,fun r hr x hx=>(Aix hcd hN hq r hr x hx).tx⟩;obtain⟨i,hi,rfl⟩:=A2u.1 hr;have:=hA.2 i (by have:=hA.1;omega);rw[N6 hi]at this;rw[this,hA.1]
theorem Qb {y:Nat->Rat}{bE:Option Par->Rat}(hs:Sq (Pu C P q))(h:Abv (Pu C P q).length (Nh (Pu C P q) (Y0 C P)) y)(hb:∀ j,j<P.length+1->bE ((Ak P).getD j none)=y j):Fv P C q bE:=by
 have hA:=N4 (P:=P) (C:=C) (q:=q);intro e he;obtain⟨i,hi,rfl⟩:=A2u.1 he;have hei:(Ak P)[i]=(Ak P).getD i none:=by rw[A0o,A0n hi];rfl
 rw[hei];rw[Bo]at hi;have hiA:i<(Pu C P q).length:=by rw[hA.1];exact hi
 have h1:=h i hiA;rw[Anf hs hiA,Aly hi,Er (g:=fun j=>As C ((Ak P).getD i none) ((Ak P).getD j none)*bE ((Ak P).getD j none)+(if i=j/\0<i then q else 0)*y j) (fun j hj=>by
  have hj':j<P.length+1:=by have:=hA.1;omega
  rw[Ahx hs hiA hj,Air hi hj',hb j hj'];grind),hA.1,Y4,Aac]at h1
 have hpen:Kp q bE ((Ak P).getD i none)=if i<P.length+1/\0<i then q*y i else 0:=by
  cases i with
  |zero=>rw[if_neg oV];rfl
  |succ j =>
   rw[if_pos ⟨hi,oV⟩,<-hb _ hi];unfold Ak;rw[A5b,A0o,A0v,A0n oV];rfl
 rw[R3 _ (Ak P) none,Bo,hpen];exact h1
theorem Aeq (hP:P.Nodup)(hl:qs.length=P.length)(hj:j<P.length):Bi P[j] (P.zip qs)=gR qs j:=by
 have hjq:j<qs.length:=oV
 rw[Mj hjq];refine F9 ?_ (A2u.2 ⟨j,gV,mV⟩);have e:(P.zip qs).map (·.1)=P:=List.map_fst_zip oV;rw[e];exact hP
theorem Ag6 (hP:P.Nodup){m0:Rat}(hl:qs.length=P.length):∀ j,j<P.length+1->cfE m0 (P.zip qs) ((Ak P).getD j none)=gR (m0::qs) j:=by
 intro j hj;cases j with
 |zero=>rfl
 |succ j =>
  unfold Ak;rw[A5b,A0o,A0v,A0n oV];show Bi P[j] (P.zip qs)=gR (m0::qs) (j+1);rw[Aeq hP hl oV];rfl
theorem Akj (hi:i<P.length+1):(Ak P).getD i none∈Ak P:=by
 have:=Bo P;rw[A0o,A0n oV];exact A04 _
theorem Ac7 {b:Option Par->Rat}(hcd:G5 N C)(hN:N<=489888)(hq:Kl q)(hP:P.length<=11)(hcp:1<=C.c)(hpsd:∀ z,0<=Bm z P C)(hsq:∀ z,0<=sqC z P C)(h:Fv P C q b):∀ e∈Ak P,De 111 103 (b e):=by
 have hc0:0<C.c:=by
  have h1:(0:Rat)<1:=jV
  grind
 obtain⟨D,h0,h1,h2⟩:=Ady hcd hN hP hq.thirty hq.pos hc0 hpsd h;exact Ao6 h0 h1 h2 (Ali hcd hN hP hq.thirty hq.pos hcp hpsd (hsq b) h)
theorem Aot (hnd:P.Nodup)(hcd:G5 N C)(hN:N<=489888)(hq:Kl q)(hP:P.length<=11)(hcp:1<=C.c)(hpsd:∀ z,0<=Bm z P C)(hsq:∀ z,0<=sqC z P C)(y:Nat->Rat)(h:Abv (Pu C P q).length (Nh (Pu C P q) (Y0 C P)) y) :
 ∀ i,i<(Pu C P q).length->Tx (y i):=by
 intro i hi;have hA:=N4 (P:=P) (C:=C) (q:=q);have hi':i<P.length+1:=by have:=hA.1;omega
 have hb:∀ j,j<P.length+1->cfE (y 0) (P.zip ((A1q P.length).map fun j=>y (j+1))) ((Ak P).getD j none)=y j:=fun j hj=>by
  rw[Ag6 hnd mV j hj];cases j with
  |zero=>rfl
  |succ j=>exact Ads (by rw[List.getElem?_cons_succ,A0v,A52 oV];rfl)
 have hn:=Qb (Ahf hcd hN hq hP) h hb;have hd:=Ac7 hcd hN hq hP hcp hpsd hsq hn _ (Akj hi');rw[hb i hi']at hd;exact hd.tx oV oV oV oV
end
end
section
variable {A:List (List Rat)}{X Y:List (List Int)}{b:List Rat}{k n:Nat}{m u:PH}
theorem Aym {v:Value}(h:N7 u v (Jx A))(hs:Sq A):Fn0 prog 146 [v] u fun v' _=>v'=.int .i64 0:=by
 obtain⟨a,c,rfl⟩:=h.opn;refine Fn0.o func146 ?_;refine G.c call212 (Ayb h hs) ?_;rintro v1 u1 l1 rfl;refine G.eT' 0 0 rfl ?_;refine G.nF (A.length:Int) (A.length:Int) ?_;exact G.r (.int .i64 0) ⟨rfl,rfl⟩
structure Th (q:Rat):Prop where
 tx:Tx q
 den:q.den ∣ 4320
 num:q.num.natAbs<=30000000
theorem Ay4 (h:n<1000000000000):Lib.nDigits n<=12:=Ed (k:=12) oV oV
theorem Aus (hT:∀ r∈A,∀ q∈r,Th q):Az1 A 4320 12 where
 den:=fun r hr q hq=>(hT r hr q hq).den
 pos:=oV
 nl:=A0q (nlM oV) oV
 dig:=fun D hD h0=>by
  have hD2:D<=4320:=A5s oV hD;refine⟨Ay4 oV,fun r hr q hq hd=>Ay4 ?_⟩;rw[A30,A1z];have h1:=(hT r hr q hq).num;have h2:D/q.den<=4320:=A0q (A3v _ _) hD2;have:=A3j h1 h2;omega
theorem Azy (h:∀ q∈b,Th q):∀ r∈b.map (fun q=>[q]),∀ q∈r,Th q:=fun r hr q hq=>by
 obtain⟨x,hx,rfl⟩:=A0u.1 hr;simp at hq;subst hq;exact h q hx
theorem Awe :Jx (b.map fun q=>[q])=(b.map Af).map fun t=>[t]:=by simp[Jx]
theorem Ayg {D D':Nat}(hs:Sq A)(hbl:b.length=A.length)(hT:∀ r∈A,∀ q∈r,Th q)(hbT:∀ q∈b,Th q)(hD:D ∣ 4320)(hD':D' ∣ 4320):SzZ (Aq8 A b D D') 2:=fun i j=>by
 have key:∀ (q:Rat) (E:Nat),Th q->E ∣ 4320->nl (q.num*((E/q.den:Nat):Int)).natAbs<=2:=fun q E hq hE=>by
  refine nlM ?_;rw[A30,A1z];have h2:E/q.den<=4320:=A0q (A3v _ _) (A5s oV hE);have:=A3j hq.num h2;omega
 have z:nl (0:Int).natAbs<=2:=A0q (nl1 (n:=0) oV) oV;by_cases hi:i<A.length
 ·have hl:(gM A i).length=A.length:=by rw[N6 hi];exact hs.len hi
  unfold enZ;rw[Ase hi];by_cases hj:j<A.length
  ·rw[Ax9 (by simp[Q4,hl,hj]),Aul oV];exact key _ D (hT _ (Ax7 hi) _ (At3 oV)) hD
  ·by_cases hj2:j=A.length
   ·rw[Avt (by simp[Q4,hl,hj2])];exact key _ D' (hbT _ (At3 oV)) hD'
   ·rw[Aua (by simp[Q4,hl];omega)];exact z
 ·unfold enZ;have:gMZ (Aq8 A b D D') i = []:=by unfold gMZ;rw[A0o,List.getElem?_eq_none (by simp[Aq8];omega)];rfl
  rw[this];exact z
theorem Axa {n w E:Nat}:∀ (f c:Nat) (s:BZ),SzZ s.X (zs E c)->nl s.v.natAbs<=zs E c->Aqv n w s.X->s.P.length<=n->SzZ (Aq0 n f c s).X (zs E (c+f))/\nl (Aq0 n f c s).v.natAbs<=zs E (c+f)
 |0,c,s,h1,h2,_,_=>⟨h1,h2⟩
 |f+1,c,s,h1,h2,h3,h4=>by
  obtain⟨q1,q2,q3,q4,_⟩:=Av5 (c:=c) h1 h2 h3 h4;have hz:zs E (c+1)=2*zs E c+2:=rfl;have:=Axa (E:=E) f (c+1) (Aq1 n c s) (q1.mono oV) (A0q q2 oV) q3 q4;unfold Aq0;rw[show c+(f+1)=c+1+f by omega];exact this
theorem Az9 (h:n<=12):zs 2 n<=1000000000:=A0q (Ay8 2 h) fV
theorem Ayf {l:List Arr}(h:Bag m l):Bag m (Xz (.slice none 0 0) []::Xz (.slice none 0 0) []::l):=⟨m,Ae.nil _ _ _,m,Ae.nil _ _ _,h⟩
def Ate (Y X:List (List Int))(k:Nat):List (List Int):=Y.take k++X.drop k
theorem Ax0 (h:Y.length=X.length)(hk:k<X.length):(Ate Y X k).set k (gMZ Y k)=Ate Y X (k+1):=by
 unfold Ate;rw[A4k _ _ gV];simp only[A00];rw[show k-min k Y.length=0 by omega,List.drop_eq_getElem_cons hk,A2k,Mx oV,A1j,Ar7 oV];rfl
theorem Ayo (h:Y.length=X.length)(hk:k<X.length):gMZ (Ate Y X k) k=gMZ X k:=by
 unfold Ate gMZ;rw[A0o,A1s gV,A0o];simp only[A00];rw[show k-min k Y.length=0 by omega,List.getElem?_drop];rfl
theorem Axt (h:Y.length=k)(h2:X.length=k):Ate Y X k=Y:=by
 unfold Ate;rw[A03 oV,List.drop_of_length_le oV,A1i]
theorem Awp {n c:Nat}{a:Option Addr}{rows:List (Value×List Value)}(hbag:Bag m (oN (.slice a n c) rows::rows.map Aqj))(hQ:NAt u rows X)(hm:PH.le m u):Arj u (.slice a n c) X:=Aub (Ayf hbag) hQ hm
theorem Azf {u:PH}{v bv:Value}{A:List (List Rat)}{b:List Rat}(ht:Lb u)(h:N7 u v (Jx A))(hb:Fe u bv (b.map Af))(hs:Sq A)(hbl:b.length=A.length)(h0:0<A.length)(hT:∀ r∈A,∀ q∈r,Th q)(hbT:∀ q∈b,Th q)
 (hk:∀ y:Nat->Rat,(∀ i,i<A.length->Dm A.length (fun j=>en A i j*y j)=0)->∀ j,j<A.length->y j=0) (hsol:∀ y:Nat->Rat,Abv A.length (Nh A b) y->∀ i,i<A.length->Tx (y i)) :
 Fn0 prog 69 [v,bv] u fun r u'=>∃ qs lv,r=.tuple #[lv,.int .i64 0]/\qs.length=A.length/\Abv A.length (Nh A b) (gR qs)/\Fe u' lv (qs.map Af):=by
 obtain⟨a0,c0,rfl⟩:=h.opn;rw[If]at h⊢;obtain⟨a1,c1,rfl⟩:=Ab.opn hb;have hbs:(Cs (b.map Af)).length=A.length:=by simp[Cs,hbl]
 rw[hbs]at hb⊢;have hle:=hs.le;have hTx:∀ r∈A,∀ q∈r,Tx q:=fun r hr q hq=>(hT r hr q hq).tx;have hLA:=Aus hT;have hCT:=Azy hbT;have hLB:=Aus hCT;have hcl:∀ r∈b.map (fun q=>[q]),r.length<=12:=fun r hr=>by obtain⟨x,_,rfl⟩:=A0u.1 hr;simp
 have hrl:∀ r∈A,r.length<=12:=fun r hr=>by rw[hs.row r hr];exact hle
 have hbm:(b.map (fun q=>[q])).length=A.length:=by rw[A0p,hbl]
 refine Fn0.o func69 ?_;refine G.c call146 (Aym h hs) ?_;rintro v1 u1 l1 rfl;refine G.nF 0 0 ?_;refine G.nF (A.length:Int) (A.length:Int) ?_;refine G.c call147 (Auz (Ab.mono hb l1) (fun q hq=>(hbT q hq).tx) oV) ?_;rintro v2 u2 l2 rfl;have le2:=l1.trans l2;refine G.c call148 (Axe (N:=12) (K:=12) (ht.mono le2) (h.mono le2) hTx hle hrl oV oV oV hLA.den hLA.pos hLA.nl hLA.dig) ?_;rintro v3 u3 l3 rfl;have le3:=le2.trans l3;refine G.c call149 (Awh (Ab.mono hb le3) (by rw[A0p];omega)) ?_;intro v4 u4 l4 k4;rw[<-Awe]at k4;have le4:=le3.trans l4;refine G.c call148 (Axe (N:=12) (K:=12) (ht.mono le4) k4 (fun r hr q hq=>(hCT r hr q hq).tx) oV hcl oV oV oV hLB.den hLB.pos hLB.nl hLB.dig) ?_;rintro v5 u5 l5 rfl;have le5:=le4.trans l5;refine G.callO _ _ kV call150 (Aya (h.mono le5) hTx oV (fun r hr=>by have:=hrl r hr;omega) hLA.den hLA.pos hLA.nl) ?_;rintro v6 u6 m6 l6 ⟨D,fD,a6,c6,rows6,hD0,hDL,hDd,rfl,hDn,hQ6,hbag6⟩ _;rw[C2];have le6:=le5.trans l6;refine G.c call149 (Awh (Ab.mono hb le6) (by rw[A0p];omega)) ?_;intro v7 u7 l7 k7;rw[<-Awe]at k7;have le7:=le6.trans l7;refine G.c call150 (Awc k7 (fun r hr q hq=>(hCT r hr q hq).tx) oV (fun r hr=>by have:=hcl r hr;omega) hLB.den hLB.pos hLB.nl) ?_;rintro v8 u8 l8 ⟨D',hD0',hDL',hDd',eb,ea,en',ec,ea',en2,ec',rfl,hDn',hR8⟩;have le8:=le7.trans l8;have hsys:Axr A b D D':=⟨hD0,hD0',hDd,fun q hq=>hDd' [q] (A0u.2 ⟨q,hq,rfl⟩) q mV⟩;obtain⟨_,_,e0⟩:=LP.opn hR8;rw[A0p,hbm]at e0;simp only[A09]at e0;obtain⟨rfl,rfl,rfl⟩:=e0;have hX6:Aqv A.length A.length (A.map (Q4 D)):=⟨mV,fun i hi=>by rw[Ar7 (by simpa using hi),A4r,Q4,A0p];exact hs.len hi⟩;have hXn:=Axq (b:=b) (D:=D) (D':=D') hs;have hrl6:rows6.length=A.length:=by rw[hQ6.1];simp
 obtain⟨go,co,eo⟩:=hbag6.ptr 0 rfl (by intro e;simp only[oN,List.map_eq_nil_iff]at e;rw[e]at hrl6;simp at hrl6;omega);simp only[oN,A0p,hrl6,A09,true_and]at eo;obtain⟨rfl,rfl⟩:=eo;refine G.l (ι:=Nat×List (Value×List Value)) (fun i=>[(0,sV a0 A.length c0),(7,.p 10005 0),(8,.p 10006 0),(44,iV A.length),(45,iV i.1)])
  (fun i=>[(10005,⟨218,[bV fD.b,sV fD.a fD.n fD.c,sV (some ⟨go,0,none⟩) A.length c6]⟩),(10006,⟨218,[bV eb,sV ea en' ec,sV ea' A.length ec']⟩)])
  (fun i u' m'=>i.1<=A.length/\NAt u' i.2 (Ate (Aq8 A b D D') (A.map (Q4 D)) i.1)/\Bag m' (oN (.slice (some ⟨go,0,none⟩) A.length c6) i.2::i.2.map Aqj)) (fun i=>A.length-i.1) (0,rows6)
  ⟨A1m _,(show NAt u8 rows6 (Ate (Aq8 A b D D') (A.map (Q4 D)) 0) by unfold Ate;simpa using hQ6.mono (l7.trans l8)),hbag6⟩ ?_
 clear hbag6 hQ6 hrl6;rintro J ⟨i,rows⟩ hJ u9 m9 l9 ⟨hi,hQ,hbag⟩;simp only at hi hQ hbag hJ;have hyl:(Aq8 A b D D').length=(A.map (Q4 D)).length:=by simp[Aq8]
 have hrl9:rows.length=A.length:=by rw[hQ.1];unfold Ate;simp[Aq8];omega
 have le9:=le8.trans l9;by_cases hlt:i<A.length
 ·refine G.lT (i:Int) (A.length:Int) ?_;have hri:rows[i]?=some rows[i]:=A0n oV;have hAt:=hQ.2 i _ hri;rw[Ayo hyl (by simpa using hlt),Ar7 (by simpa using hlt),A4r]at hAt;obtain⟨⟨vi,ei⟩,he⟩:∃ x,rows[i]=x:=⟨_,rfl⟩;rw[he]at hri hAt;simp only at hAt;have hel:ei.length=A.length:=by rw[hAt.1,Q4,A0p];exact hs.len hlt
  obtain⟨gi,ci,e⟩:=hbag.ptr (i+1) (x:=Aqj (vi,ei)) (by simp[hri]) (by intro e;simp only[Aqj]at e;rw[e]at hel;simp at hel;omega);simp only[Aqj]at e;rw[hel]at e;subst e;have hoi:ElP m9 go (0+i*1) (.slice (some ⟨gi,0,none⟩) A.length ci):=hbag.el 0 (x:=oN (.slice (some ⟨go,0,none⟩) A.length c6) rows) rfl rfl (by show (rows.map (·.1))[i]?=_;rw[A0v,hri];rfl);have hbi:i<b.length:=oV
  have hR9:Arj u9 (.slice ea' A.length ec') ((b.map fun q=>[q]).map (Q4 D')):=Arj.mono hR8 l9;have hci:((b.map fun q=>[q]).map (Q4 D'))[i]?=some [(gR b i).num*((D' / (gR b i).den:Nat):Int)]:=by
   rw[A0v,A0v,A0n hbi,Mj hbi];rfl
  obtain⟨b10,o10,e10,rfl,h10,f10⟩:=LP.at hR9 hci;obtain⟨a11,c11,rfl⟩:=LP.opn f10;obtain⟨b12,o12,e12,rfl,h12,f12⟩:=LP.at f10 (j:=0) (x:=(gR b i).num*((D' / (gR b i).den:Nat):Int)) rfl;obtain⟨f13,rfl⟩:=f12.opN;refine G.a go 0 A.length c6 i 1 hlt ?_;refine G.lM none go (0+i*1) _ hoi ?_;refine G.a b10 o10 A.length ec' i 1 hlt ?_;refine G.lU none b10 (o10+i*1) _ h10 ?_;refine G.a b12 o12 1 c11 0 2 oV ?_;refine G.lU (some 2) b12 (o12+0*2) (nv f13) h12 ?_;refine G.B 114 2 32 (.agg #[.bool false,.slice none 0 0]) [nv f13] (f12.ok) ?_;intro g14 u14 l14 e14;obtain⟨m0,hx0,hput⟩:=hbag.focus (i+1) (x:=Aqj (.slice (some ⟨gi,0,none⟩) A.length ci,ei)) (by simp[hri]);rw[Avy]at hx0;refine G.append 114 2 32 (.agg #[.bool false,.slice none 0 0]) m0 ei [nv f13] (.slice (some ⟨gi,0,none⟩) A.length ci) g14 0 1 1 kV rfl rfl oV hx0 e14 (f12.ok) rfl oV oV oV ?_;intro v15 m15 hA15;have hb15:=hput (Aqj (v15,ei++[nv f13])) m15 hA15;obtain⟨m1,hx1,hput1⟩:=hb15.focus 0 rfl;rw[Aup]at hx1;obtain⟨a15,c15,rfl⟩:=hA15.shape;refine G.a go 0 A.length c6 i 1 hlt ?_;refine G.storeA 1 m1 _ go A.length c6 i (.slice a15 (ei++[nv f13]).length c15) kV hx1 gV rfl rfl ?_;intro m16 hx16;have hb16:=hput1 (oN (.slice (some ⟨go,0,none⟩) A.length c6) (rows.set i (.slice a15 (ei++[nv f13]).length c15,ei++[nv f13]))) m16 (by rw[Aup,A27];exact hx16);rw[show ((oN (.slice (some ⟨go,0,none⟩) A.length c6) rows::rows.map Aqj).set (i+1) (Aqj (.slice a15 (ei++[nv f13]).length c15,ei++[nv f13]))).set 0 (oN (.slice (some ⟨go,0,none⟩) A.length c6) (rows.set i (.slice a15 (ei++[nv f13]).length c15,ei++[nv f13]))) =
   oN (.slice (some ⟨go,0,none⟩) A.length c6) (rows.set i (.slice a15 (ei++[nv f13]).length c15,ei++[nv f13]))::(rows.set i (.slice a15 (ei++[nv f13]).length c15,ei++[nv f13])).map Aqj by rw[List.set_cons_succ,A2k,A27]]at hb16
  refine G.i i ?_;refine G.b (hJ (i+1,rows.set i (.slice a15 (ei++[nv f13]).length c15,ei++[nv f13])) _ _ _ cV (l9.trans l14) ⟨dV,?_,hb16⟩ dV);dsimp only;rw[<-Ax0 hyl (by simpa using hlt),Ase hlt];have hgm:gM A i=A[i]:=N6 hlt;rw[hgm];exact (hQ.mono l14).set oV ((hAt.mono fun _ _ k=>k.mono l14).snoc (f12.mono l14))
 obtain rfl:i=A.length:=oV
 refine G.lF (A.length:Int) (A.length:Int) ?_;clear hJ;rw[Axt (by simp[Aq8]) mV]at hQ;refine G.giveP (ma:=m9) (sm:=PH.mt) kV (by funext g;unfold PH.or;cases m9 g<;>rfl) (fun g=>.inr rfl) (fun g=>.inl rfl) ?_
 intro u10 l10 hm10;have hM10:=Awp hbag (hQ.mono l10) hm10;have hsz:=Ayg (D:=D) (D':=D') hs hbl hT hbT hDL hDL';refine G.c call151 (Ayp hM10 hXn oV oV h0 oV hsz oV (Az9 hle)) ?_;rintro v11 u11 l11 ⟨a12,c12,pa,pc,fv,rfl,hS,hV⟩;obtain⟨hPl,hSr,hv0,hSs⟩:=(Au6 hXn).resolve_right fun h=>Az3 hs hsys hk h.1;obtain⟨hzX,hzv⟩:=Axa (n:=A.length) (w:=A.length+1) (E:=2) A.length 0 ⟨Aq8 A b D D',[],1,false⟩ hsz (A0q (nl1 (n:=1) oV) (by show 1<=2;omega)) hXn (A1m _);rw[A2b]at hzX hzv;clear hle;have hle:=hs.le;generalize Aq0 A.length A.length 0 ⟨Aq8 A b D D',[],1,false⟩=s at *
 refine G.lF' (s.P.length:Int) (A.length:Int) (by rw[hPl];omega) ?_;have hqs:=Ayh hs hbl hsys hv0 hSs;have hql:(qsZ A.length s.X s.v D D').length=A.length:=by simp[qsZ]
 have hz12:=Az9 hle;have hnD:nl (D:Int).natAbs<=2:=nlM (by have:=A5s oV hDL;omega);have hnD':nl (D':Int).natAbs<=2:=nlM (by have:=A5s oV hDL';omega);have hDn10:=(((hDn.mono l7).mono l8).mono l9).mono (l10.trans l11);have hDn10':=(hDn'.mono l9).mono (l10.trans l11);refine G.l (ι:=Nat×List Value×(Option Addr×Nat)) (fun i=>[(0,sV a0 A.length c0),(7,.p 10005 0),(8,.p 10006 0),(10,.p 16005 0),(11,sV i.2.2.1 i.1 i.2.2.2),(79,sV a12 A.length c12),(80,iV A.length),(81,iV i.1)])
  (fun i=>[(10005,⟨218,[bV fD.b,sV fD.a fD.n fD.c,sV (some ⟨go,0,none⟩) A.length c6]⟩),(10006,⟨218,[bV eb,sV ea en' ec,sV ea' A.length ec']⟩),
   (16005,⟨222,[.v (.slice a12 A.length c12),.v (.slice pa s.P.length pc),.v (.bool fv.b),.v (.slice fv.a fv.n fv.c),.v (.bool s.odd)]⟩)])
  (fun i u' m'=>i.1<=A.length/\AtP Av u' i.2.1 ((qsZ A.length s.X s.v D D').take i.1)/\Ae PH.mt m' (.slice i.2.2.1 i.1 i.2.2.2) 116 4 i.2.1) (fun i=>A.length-i.1) (0,[],(none,0))
  ⟨A1m _,AtP.nil,Ae.nil _ _ _⟩ ?_
 rintro J ⟨i,es,⟨oa,oc⟩⟩ hJ u12 m12 l12 ⟨hi,hF,hA12⟩;simp only at hi hF hA12 hJ;have hel:=hF.1;rw[A00]at hel;by_cases hlt:i<A.length
 ·refine G.lT (i:Int) (A.length:Int) ?_;have hsi:i<s.X.length:=by rw[hSr.1];exact hlt
  have hxi:s.X[i]?=some s.X[i]:=A0n hsi;have hwi:s.X[i].length=A.length+1:=by have:=hSr.2 i hlt;rwa[Ar7 (by rw[hSr.1];exact hlt)]at this
  obtain⟨b13,o13,e13,rfl,h13,f13⟩:=LP.at (Arj.mono hS l12) hxi;obtain⟨a14,c14,rfl⟩:=LP.opn f13;rw[hwi]at f13 h13;obtain⟨b15,o15,e15,rfl,h15,f15⟩:=LP.at f13 (j:=A.length) (x:=enZ s.X i A.length) (by
   unfold enZ;rw[Ar7 (by rw[hSr.1];exact hlt),Atp oV];exact A0n oV)
  obtain⟨f16,rfl⟩:=f15.opN;refine G.a b13 o13 A.length c12 i 1 hlt ?_;refine G.lU none b13 (o13+i*1) _ h13 ?_;refine G.a b15 o15 (A.length+1) c14 A.length 2 oV ?_;refine G.lU (some 2) b15 (o15+A.length*2) (nv f16) h15 ?_;have hz1:=hzX i A.length;have hD12:=hDn10.mono l12;have hD12':=hDn10'.mono l12;refine G.c call121 (Gg f15 hD12 (A0q hz1 oV) (A0q hnD oV)) ?_;intro v17 u17 l17 k17;obtain⟨f17,rfl⟩:=k17.opN;refine G.c call121 (Gg ((hV.mono l12).mono l17) (hD12'.mono l17) (A0q hzv oV) (A0q hnD' oV)) ?_;intro v18 u18 l18 k18;obtain⟨f18,rfl⟩:=k18.opN;have hn17:nl (enZ s.X i A.length*(D:Int)).natAbs<=2*1000000000:=Bl (A0q hz1 hz12) (A0q hnD oV);have hn18:nl (s.v*(D':Int)).natAbs<=2*1000000000:=Bl (A0q hzv hz12) (A0q hnD' oV);have hzne:s.v*(D':Int)≠0:=Int.mul_ne_zero hv0 oV;refine G.c call120 (Rp (k17.mono l18) k18 (A0q hn17 oV) (A0q hn18 oV) hzne) ?_;intro v19 u19 l19 k19;have hok:A3 4 [v19]:=(AtP.nil.snoc k19:AtP Av u19 [v19] [_]).ok4;obtain⟨x1,x2,x3,x4,x5,x6,x7,x8,rfl⟩:=k19.opn;refine G.B 116 4 64 (.agg #[.bool false,.slice none 0 0,.bool false,.slice none 0 0]) [.agg #[.bool x1,.slice x2 x3 x4,.bool x5,.slice x6 x7 x8]] hok ?_;intro g20 u20 l20 e20;refine G.append 116 4 64 (.agg #[.bool false,.slice none 0 0,.bool false,.slice none 0 0]) PH.mt es [.agg #[.bool x1,.slice x2 x3 x4,.bool x5,.slice x6 x7 x8]] (.slice oa i oc) g20 0 1 1 kV rfl rfl oV hA12 e20 hok rfl oV oV oV ?_;intro v21 m21 hA21;obtain⟨a21,c21,rfl⟩:=hA21.shape;have el:(es++[A8q #[.bool x1,.slice x2 x3 x4,.bool x5,.slice x6 x7 x8]]).length=i+1:=by rw[A0z,hel,hql];simp;omega
  rw[el]at hA21⊢;refine G.i i ?_;refine G.b (hJ (i+1,es++[A8q #[.bool x1,.slice x2 x3 x4,.bool x5,.slice x6 x7 x8]],(a21,c21)) _ _ _ cV ((((l12.trans l17).trans l18).trans l19).trans l20) ⟨dV,?_,hA21⟩ dV);dsimp only;have hqi:(qsZ A.length s.X s.v D D')[i]?=some (A2m (enZ s.X i A.length*(D:Int)) (s.v*(D':Int))):=by
   rw[<-Aw5 hlt,Mj oV];exact A0n oV
  rw[A1c,hqi];exact (hF.mono fun _ _ k=>k.mono (((l17.trans l18).trans l19).trans l20)).snoc (k19.mono l20)
 obtain rfl:i=A.length:=oV
 refine G.lF (A.length:Int) (A.length:Int) ?_;rw[A03 oV]at hF;refine G.give PH.mt es _ kV hA12 (fun _=>.inl rfl) ?_;intro u13 l13 hL13;have hFs:M6 u13 (.slice oa A.length oc) (qsZ A.length s.X s.v D D'):=⟨es,hL13,hF.mono fun _ _ k=>k.mono l13⟩;have hTh:∀ q∈qsZ A.length s.X s.v D D',Tx q:=fun q hq=>by
  obtain⟨j,hj,rfl⟩:=A2u.1 hq;rw[<-Mj hj];exact hsol _ hqs j oV
 refine G.c call90 (Avf (((ht.mono le8).mono l9).mono (((l10.trans l11).trans l12).trans l13)) hFs hTh oV) ?_;rintro v14 u14 l14 ⟨r,rfl,hr⟩;exact G.r (.tuple #[r,.int .i64 0]) ⟨rfl,_,r,rfl,hql,hqs,hr⟩
end
section
variable [Cc] [Dy]
section
variable {P:Program} {id:Nat} {ops:Array Oper} {dr:Bool} {Fin:S->PH->PH->Prop} {c:Cx} {Q:Exit->Act->World->Prop}
def Ar4 (P:Program)(id:Nat)(ops:Array Oper)(post:List Nat)(Fin:S->PH->PH->Prop):Nat->List Nat->S->PH->PH->Prop
 |0,_,s,u,m=>Ob P id ops true Fin post s u m
 |n+1,A,s,u,m=>∀ a∈A,(∀ b∈A,b≠a->bef ops ops.size a b=false)->Ob P id ops true (Ar4 P id ops post Fin n (A.erase a)) [a] s u m
theorem Ob.wpAnyT {s0:S}(hL0:La s0)(hE:(A1q ops.size).all (Hq ops)=true)(hF:∀ s u m ρ a w,Fin s u m->Rel c s u m ρ a w->Q .normal a w){post A0:List Nat}(hpost:∀ y∈post,∀ a∈A0,bef ops ops.size y a=true)(hnd:∀ a∈A0,∀ y∈post,dir ops a y=false) :
 ∀ (n k:Nat) (A pre:List Nat) (listed:Array Bool) {s:S} {u m:PH} {ρ:Nat->Nat} {a:Act} {w:World},A.length=k->(∀ x∈A,x∈A0)->A.Pairwise (fun x y=>dir ops x y=false)->pre.length+(k+post.length)=n->H8 ops listed (pre++(A++post)) ->
  (pre++post).Pairwise (fun x y=>Eg ops s0 x y=true)->(∀ x∈pre,∀ y∈A,Eg ops s0 x y=true)->Ei ops s0 s->Ob P id ops true (Ar4 P id ops post Fin k A) pre s u m->Rel c s u m ρ a w->Go.wpAny P .any ops Q n listed a w:=by
 intro n;induction n with
 |zero =>
  intro k A pre listed s u m ρ a w hk hA0 hAd hlen hLeft hP hPA hag hO hr;obtain rfl:k=0:=oV
  obtain rfl:=List.eq_nil_of_length_eq_zero hk;exact hLeft.any hL0 hE hF (by simp only[A0z,List.length_nil];omega) hP hag (Ob.append hO) hr
 |succ n ih =>
  intro k A pre listed s u m ρ a w hk hA0 hAd hlen hLeft hP hPA hag hO hr;cases A with
  |nil =>
   simp at hk;subst hk;exact hLeft.any hL0 hE hF gV hP hag (Ob.append hO) hr
  |cons b A' =>
   obtain⟨k,rfl⟩:∃ k',k=k'+1:=⟨k-1,by simp at hk;omega⟩;refine⟨fun hnil=>?_,fun i hi=>?_⟩
   ·exfalso;cases pre with
    |nil =>
     have:=H8.first (t:=b) (T:=A'++post) hLeft hE fun x hx=>by
      rcases A01.1 hx with hx|hx
      ·exact A2h hAd hx
      ·exact hnd b (hA0 b mV) x hx
     rw[hnil]at this;cases this
    |cons t T' =>
     have:=H8.first (t:=t) (T:=T'++(b::A'++post)) hLeft hE fun x hx=>by
      rcases A01.1 hx with hx|hx
      ·exact Dc (A2h hP (by simp[hx]))
      ·rcases A01.1 hx with hx|hx
       ·exact Dc (hPA t mV x hx)
       ·exact Dc (A2h hP (by simp[hx]))
     rw[hnil]at this;cases this
   ·obtain⟨h1,h2,o,ho,hpre⟩:=O5.1 hi;have hm:=(hLeft.mem i h1).1 h2;rcases A01.1 hm with hm|hm
    ·obtain⟨A1,B1,rfl⟩:=List.append_of_mem hm;have hLeft':H8 ops listed (A1++i::(B1++(b::A'++post))):=by
      rw[A1j]at hLeft;exact hLeft
     have hP':(A1++i::(B1++post)).Pairwise (fun x y=>Eg ops s0 x y=true):=by
      rw[A1j]at hP;exact hP
     have hsw:=hLeft'.swaps (A:=A1) (s0:=s0) (fun x hx=>by simp[hx]) ho hpre fun x hx=>(List.pairwise_append.1 hP').2.2 x hx i mV;have hO':=Ob.bubble hL0 A1 hsw hr.lv hag hO;refine wpOp_mono (fun a' w' ⟨s',u',m',ρ',r1,ra,r2⟩=>?_) (hO'.step (Q:=Q) hr);refine ih (k+1) (b::A') (A1++B1) _ hk hA0 hAd (by simp at hlen⊢;omega) (by rw[A1j];exact hLeft'.next ho hpre) ?_ (fun x hx y hy=>hPA x (by simp at hx⊢;rcases hx with h|h<;>simp[h]) y hy) (hag.trans ra) r2 r1
     rw[A1j];exact hP'.sublist (List.Sublist.append_left (List.sublist_cons_self i _) A1)
    ·rcases A01.1 hm with hm|hm
     ·have hpm:(pre++(b::A'++post)).Perm (pre++i::((b::A').erase i++post)):=by
       refine List.Perm.append_left pre ?_;rw[<-A39];exact (List.perm_cons_erase hm).append_right post
      have hLeft':=hLeft.perm hpm;have hsw:=hLeft'.swaps (A:=pre) (s0:=s0) (fun x hx=>by simp[hx]) ho hpre fun x hx=>hPA x hx i hm;have hcond:∀ b'∈b::A',b'≠i->bef ops ops.size i b'=false:=fun b' hb' hne=>by
       cases e:bef ops ops.size i b' with
       |false=>rfl
       |true=>exact (hLeft.no (x:=b') (by simp at hb'⊢;rcases hb' with h|h<;>simp[h]) (Aqq hLeft.cl ops.size i (fun o' ho'=>by rw[ho]at ho';obtain rfl:=A2d ho';exact hpre) e)).elim
      have hO':=Ob.bubble (B:=[]) hL0 pre hsw hr.lv hag (Ob.append (l2:=[i]) (hO.fin fun s u m h=>h i hm hcond));refine wpOp_mono (fun a' w' ⟨s',u',m',ρ',r1,ra,r2⟩=>?_) (hO'.step (Q:=Q) hr);rw[A1i]at r2;exact ih k ((b::A').erase i) pre _ (by rw[List.length_erase_of_mem hm];simp at hk⊢;omega) (fun x hx=>hA0 x (A93 hx)) (hAd.sublist List.erase_sublist) oV (hLeft'.next ho hpre) hP (fun x hx y hy=>hPA x hx y (A93 hy)) (hag.trans ra) r2 r1
     ·exfalso;exact hLeft.no (x:=b) mV (Aqq hLeft.cl ops.size i (fun o' ho'=>by rw[ho]at ho';obtain rfl:=A2d ho';exact hpre) (hpost i hm b (hA0 b mV)))
def Awb (ops:Array Oper):List Nat->Bool
 |[]=>true
 |x::l=>l.all (fun y=>!dir ops x y)&&Awb ops l
theorem As0:∀ {l:List Nat},Awb ops l=true->l.Pairwise (fun x y=>dir ops x y=false)
 |[],_=>.nil
 |x::l,h=>by
  unfold Awb at h;rw[A05,A08]at h;exact .cons (fun y hy=>by simpa using h.1 y hy) (As0 h.2)
def Av0 (ops:Array Oper)(s:S)(pre A post:List Nat):Bool :=
 Nat.beq (pre.length+(A.length+post.length)) ops.size&&(A1q ops.size).all (fun i=>(pre++(A++post)).contains i)&&(pre++(A++post)).all (fun i=>Nat.blt i ops.size)&&decide ((pre++(A++post)).Nodup)&&Lk ops s (pre++post) &&
  pre.all (fun x=>A.all fun y=>Eg ops s x y)&&Awb ops A&&(A1q ops.size).all (Hq ops)&&post.all (fun y=>A.all fun a=>bef ops ops.size y a)&&A.all (fun a=>post.all fun y=>!dir ops a y)
end
section
variable {P:Program} {fn:Func} {Post:B0}
theorem Sym.reg_tree (hm:P.follows .mixedOrders=true){id:Nat}{ops:Array Oper}{pre A post:List Nat}{s:S}(hB:Av0 ops s pre A post=true){k:List KI}{u m:PH}
 (h:Ob P id ops true (Ar4 P id ops post (Oq P fn Post k) A.length A) pre s u m):Oq P fn Post (.code (.region id ops true)::k) s u m:=by
 intro c ρ a w hm0 hr;simp only[Hs,Exit.then];unfold Av0 at hB;simp only[A05]at hB;obtain⟨⟨⟨⟨⟨⟨⟨⟨⟨b1,b2⟩,b3⟩,b4⟩,b5⟩,b6⟩,b7⟩,b8⟩,b9⟩,b10⟩:=hB;have b1:=Nat.eq_of_beq_eq_true b1;rw[A08]at b2 b3 b6 b9 b10;have b4:=of_decide_eq_true b4;refine wp_region_any hm ?_;refine Ob.wpAnyT (c:=c) (A0:=A) hr.lv b8 (fun s u m ρ a w hf hr=>hf c ρ a w hm0 hr) (fun y hy a ha=>by have:=b9 y hy;rw[A08]at this;exact this a ha) (fun a ha y hy=>by have:=b10 a ha;rw[A08]at this;simpa using this y hy) _ A.length A pre _ rfl (fun _ h=>h) (As0 b7) b1
  ⟨mV,fun i hi=>?_,fun i hi=>Nat.blt_eq▸b3 i hi,b4,fun i hi=>?_⟩ (D4 b5) (fun x hx y hy=>by have:=b6 x hx;rw[A08]at this;exact this y hy) (Ei.refl _ _) h hr.drew
 ·have:=b2 i (by simpa using hi);rw[List.contains_iff_mem]at this;simp only[A1f,Array.getElem?_replicate,hi,if_true,Option.getD_some];exact⟨fun _=>this,fun _=>trivial⟩
 ·exfalso;simp only[A1f]at hi;by_cases hlt:i<ops.size
  ·simp[hlt]at hi
  ·rw[Array.getElem?_eq_none gV]at hi;simp at hi
def S.put4 (s:S)(d1 d2 d3 d4:Nat)(x1 x2 x3 x4:SV):S:=(((s.put (some d1) x1).put (some d2) x2).put (some d3) x3).put (some d4) x4
theorem Aq2 (s:S)(d1 d2 d3 d4:Nat)(x1 x2 x3 x4:SV)(t:Nat):(s.put4 d1 d2 d3 d4 x1 x2 x3 x4).tm t=if t=d4 then x4 else if t=d3 then x3 else if t=d2 then x2 else if t=d1 then x1 else s.tm t:=by
 unfold S.put4;have key:∀ (s:S) (d:Nat) (x:SV),(s.put (some d) x).tm t=if t=d then x else s.tm t:=fun s d x=>by
  by_cases e:t=d
  ·subst e;rw[B5,if_pos rfl]
  ·rw[Px _ _ _ e,if_neg e]
 rw[key,key,key,key]
theorem Awx (s:S)(d1 d2 d3 d4:Nat):s=s.put4 d1 d2 d3 d4 (s.tm d1) (s.tm d2) (s.tm d3) (s.tm d4):=by
 refine S.ext' rfl (funext fun t=>?_) rfl;rw[Aq2];split
 ·rename_i e;rw[e]
 ·split
  ·rename_i e;rw[e]
  ·split
   ·rename_i e;rw[e]
   ·split
    ·rename_i e;rw[e]
    ·rfl
section
variable {s:S} {d1 d2 d3 d4:Nat} {x1 x2 x3 x4 y:SV} (h:d1≠d2/\d1≠d3/\d1≠d4/\d2≠d3/\d2≠d4/\d3≠d4)
include h
theorem Azt:(s.put4 d1 d2 d3 d4 x1 x2 x3 x4).put (some d1) y=s.put4 d1 d2 d3 d4 y x2 x3 x4:=by
 refine S.ext' rfl (funext fun t=>?_) rfl;rw[Aq2];by_cases e:t=d1
 ·subst e;rw[B5,if_neg h.2.2.1,if_neg h.2.1,if_neg h.1,if_pos rfl]
 ·rw[Px _ _ _ e,Aq2,if_neg e,if_neg e]
theorem Azs:(s.put4 d1 d2 d3 d4 x1 x2 x3 x4).put (some d2) y=s.put4 d1 d2 d3 d4 x1 y x3 x4:=by
 refine S.ext' rfl (funext fun t=>?_) rfl;rw[Aq2];by_cases e:t=d2
 ·subst e;rw[B5,if_neg h.2.2.2.2.1,if_neg h.2.2.2.1,if_pos rfl]
 ·rw[Px _ _ _ e,Aq2,if_neg e,if_neg e]
theorem Azu:(s.put4 d1 d2 d3 d4 x1 x2 x3 x4).put (some d3) y=s.put4 d1 d2 d3 d4 x1 x2 y x4:=by
 refine S.ext' rfl (funext fun t=>?_) rfl;rw[Aq2];by_cases e:t=d3
 ·subst e;rw[B5,if_neg h.2.2.2.2.2,if_pos rfl]
 ·rw[Px _ _ _ e,Aq2,if_neg e,if_neg e]
theorem Azk:(s.put4 d1 d2 d3 d4 x1 x2 x3 x4).put (some d4) y=s.put4 d1 d2 d3 d4 x1 x2 x3 y:=by
 refine S.ext' rfl (funext fun t=>?_) rfl;rw[Aq2];by_cases e:t=d4
 ·subst e;rw[B5,if_pos rfl]
 ·rw[Px _ _ _ e,Aq2,if_neg e,if_neg e]
end
theorem Ob.layM {P:Program}[Ba P]{id:Nat}{ops:Array Oper}{Fin:S->PH->PH->Prop}{a d:Nat}{kk:List KI}{s:S}{u m:PH}(e:TypeId)(sz bt:Nat)(z:Value)(es:List Value)
 (h:Al P (.reg id ops true [a]::kk,s)=.buildS (some (e,sz,bt,z)) es.length (es.zipIdx.map fun p=>(p.2,p.1))) (hd:(ops[a]?).bind (·.dst)=some d) (ho:A3 sz es) (hzs:z.cells.size=sz) (hsz:0<sz) (hn0:0<es.length) (hb:es.length*sz<=16777216)
 (k:∀ g m',Ae m m' (.slice (some ⟨g,0,none⟩) es.length es.length) e sz es->Fin (s.put (some d) (.v (.slice (some ⟨g,0,none⟩) es.length es.length))) u m'):Ob P id ops true Fin [a] s u m:=by
 obtain⟨id',ops',dr',i',l',kk',s'',o,e1,ho',hg,hdo,hv,hs,hview,hnx⟩:=Ho h mV;simp only[A1r,A18,KI.reg.injEq]at e1;obtain⟨⟨⟨rfl,rfl,rfl,rfl,rfl⟩,rfl⟩,rfl⟩:=e1;have hdst:o.dst=some d:=by rw[ho']at hd;simpa using hd
 refine Ob.big (K:=fun v' u' m'=>u'=u/\PH.le m m'/\∃ g,v'=.slice (some ⟨g,0,none⟩) es.length es.length/\Ae m m' (.slice (some ⟨g,0,none⟩) es.length es.length) e sz es) ho' hg hdo hv hs (by
  obtain⟨t,qs,e2,_⟩:=E1 hview;rw[e2];rfl) (fun v u' m' hK=>.inl hK.2.1) (fun w hgd=>?_) (fun v u' m' hle hK=>?_)
 ·obtain⟨t,qs,e1,e2,hi⟩:=E1 hview;obtain⟨dst,opp,type,pos,after,guard⟩:=o;simp only at e1;subst e1;obtain⟨hu,i,hi1,hi2,rfl,rfl⟩:=Df hi;obtain⟨g1,g2,g3,g4⟩:=hgd.newM (cs:=(Az es).toArray) (t:=e) (by simpa using Ep ho);have hfl:=A2 ho;have hne:es.length*i.size≠0:=by have:=Nat.mul_pos hn0 hsz;omega
  have hfill:=Oz es 0 ((A6d (es.length*i.size)).map (z.cells[· % z.cells.size]!)) ho mV;have e0:((A6d (es.length*i.size)).map (z.cells[· % z.cells.size]!)).toList.drop (es.length*i.size) = []:=by
   apply List.drop_eq_nil_of_le;simp
  simp only[Nat.zero_mul,List.take_zero,A2t,A2b,e0,A1i]at hfill;refine Bq (w':=w.alloc (.cells (Az es).toArray e (0,0))) (v:=.slice (some ⟨w.heap.size,0,none⟩) es.length es.length) ?_ ⟨u,_,g1,g2,rfl,Jw _ g3,_,rfl,ho,.inr ⟨w.heap.size,es.length,[],g3,by rw[A1i],rfl,A0w _,by rw[A1i,hfl],mV⟩⟩;simp only[execOp,e2];simp[Instr.buildSlice,run_underlying hu,sizeOf,typeInfo,zeroValue,hi1,hi2,hne,hfill,newRow,show ¬ 16777216<es.length*i.size by omega]
 ·obtain⟨rfl,_,g,rfl,hA⟩:=hK;rw[hdst];exact .nil (k g m' hA)
theorem Ob.callV {P:Program}[Ba P]{id:Nat}{ops:Array Oper}{Fin:S->PH->PH->Prop}{a d:Nat}{kk:List KI}{s:S}{u m:PH}(f:Nat)(args:List Value){R:Value->PH->Prop}
 (h:Al P (.reg id ops true [a]::kk,s)=.call f args) (hd:(ops[a]?).bind (·.dst)=some d) (hc:∀ args w,(callFunc f args).run P w=.ok (.enter f args) w) (c:Fn0 P f args u R)
 (k:∀ v u',PH.le u u'->R v u'->Fin (s.put (some d) (.v v)) u' m):Ob P id ops true Fin [a] s u m:=by
 obtain⟨id',ops',dr',i',l',kk',s'',o,e1,ho',hg,hdo,hv,hs,hview,hnx⟩:=Ho h mV;simp only[A1r,A18,KI.reg.injEq]at e1;obtain⟨⟨⟨rfl,rfl,rfl,rfl,rfl⟩,rfl⟩,rfl⟩:=e1;have hdst:o.dst=some d:=by rw[ho']at hd;simpa using hd
 refine Ob.big (K:=fun v' u' m'=>m'=m/\R v' u') ho' hg hdo hv hs (Fm _ _ hview) (fun v u' m' hK=>.inl (by rw[hK.1];exact PH.le_refl _)) (fun w hgd=>?_) (fun v u' m' hle hK=>?_)
 ·refine Lz hview hc w _ ?_;refine (c w hgd.noM).mono fun e w' he=>?_;obtain⟨v,u',m',e1,e2,e3,rfl,e4⟩:=he;obtain⟨g1,g2⟩:=hgd.frame e2 e3;exact⟨v,e1,u',m,g1,g2,rfl,e4⟩
 ·obtain⟨rfl,hR⟩:=hK;rw[hdst];exact .nil (k v u' hle hR)
end
def Avs (P:Program)(pre l:List Nat)(d1 d2 d3 d4:Nat)(x1 x2 x3 x4:SV)(st:List KI×S):List KI×S:=match st with
 |(.code (.region id ops true)::k,s)=>match Qi P id ops pre s with
  |some s'=>(.reg id ops true l::k,s'.put4 d1 d2 d3 d4 x1 x2 x3 x4)
  |none=>st
 |_=>st
def A0a (P:Program)(pre:List Nat)(q1 q2 r1 r2:Nat)(post:List Nat)(d1 d2 d3 d4:Nat)(st:List KI×S):Bool:=match st with
 |(.code (.region _ ops true)::_,s)=>Av0 ops s pre [q1,q2,r1,r2] post&&(match st.1 with|.code (.region id ops _)::_=>(Qi P id ops pre s).isSome|_=>false)&&bef ops ops.size q2 q1&&bef ops ops.size r2 r1 &&
  decide ((ops[q1]?).bind (·.dst)=some d1/\(ops[q2]?).bind (·.dst)=some d2/\(ops[r1]?).bind (·.dst)=some d3/\(ops[r2]?).bind (·.dst)=some d4)&&decide (d1≠d2/\d1≠d3/\d1≠d4/\d2≠d3/\d2≠d4/\d3≠d4)&&decide ([q1,q2,r1,r2].Nodup)
 |_=>false
structure Lay where
 e:TypeId
 sz:Nat
 bt:Nat
 z:Value
 es:List Value
structure Axg (L:Lay):Prop where
 ho:A3 L.sz L.es
 hzs:L.z.cells.size=L.sz
 hsz:0<L.sz
 hn0:0<L.es.length
 hb:L.es.length*L.sz<=16777216
def Lay.stop (L:Lay):S2:=.buildS (some (L.e,L.sz,L.bt,L.z)) L.es.length (L.es.zipIdx.map fun p=>(p.2,p.1))
def Lay.v (L:Lay)(g:Nat):Value:=.slice (some ⟨g,0,none⟩) L.es.length L.es.length
def Lay.arr (L:Lay)(g:Nat):Arr:=⟨L.v g,L.e,L.sz,L.es⟩
section rules
variable {P:Program} [Ba P] {fn:Func} {Post:B0} {st:List KI×S} {u m:PH}
theorem G.fan (pre:List Nat)(q1 q2 r1 r2:Nat)(post:List Nat)(d1 d2 d3 d4:Nat)(L1:Lay)(L2:Nat->Lay)(L4:Lay)(w0:Value)(f:Nat)(args:List Value)(h:A0a P pre q1 q2 r1 r2 post d1 d2 d3 d4 (adv P st)=true)
 (H1:∀ x1 x2 x3 x4,Al P (Avs P pre [q1] d1 d2 d3 d4 x1 x2 x3 x4 (adv P st))=L1.stop) (o1:Axg L1)
 (H2:∀ g x2 x3 x4,Al P (Avs P pre [q2] d1 d2 d3 d4 (.v (L1.v g)) x2 x3 x4 (adv P st))=(L2 g).stop) (o2:∀ g,Axg (L2 g))
 (H3:∀ x1 x2 x3 x4,Al P (Avs P pre [r1] d1 d2 d3 d4 x1 x2 x3 x4 (adv P st))=.call f args) (hc:∀ args w,(callFunc f args).run P w=.ok (.enter f args) w) (c:∀ u',PH.le u u'->Fn0 P f args u' fun v _=>v=w0)
 (H4:∀ x1 x2 x4,Al P (Avs P pre [r2] d1 d2 d3 d4 x1 x2 (.v w0) x4 (adv P st))=L4.stop) (o4:Axg L4)
 (k:∀ g1 g2 g4 u' m',PH.le u u'->Bag m' [L4.arr g4,(L2 g1).arr g2,L1.arr g1]->G P fn Post (Avs P pre post d1 d2 d3 d4 (.v (L1.v g1)) (.v ((L2 g1).v g2)) (.v w0) (.v (L4.v g4)) (adv P st)) u' m'):G P fn Post st u m:=by
 refine G.stp ⟨?_⟩;generalize adv P st=st' at h H1 H2 H3 H4 k;unfold A0a at h;split at h
 ·rename_i id ops kk s;simp only[A05]at h;obtain⟨⟨⟨⟨⟨⟨h1,h2⟩,hq⟩,hr⟩,hd⟩,hne⟩,hnd⟩:=h;obtain⟨s',hs'⟩:=Option.isSome_iff_exists.1 h2;obtain⟨e1,e2,e3,e4⟩:=of_decide_eq_true hd;have hne:=of_decide_eq_true hne;have hnd:=of_decide_eq_true hnd;simp only[List.nodup_cons,A02,A14,or_false,not_or,not_false_eq_true,List.nodup_nil,and_true]at hnd;obtain⟨⟨n12,n13,n14⟩,⟨n23,n24⟩,n34⟩:=hnd;have e0:∀ l x1 x2 x3 x4,Avs P pre l d1 d2 d3 d4 x1 x2 x3 x4 (.code (.region id ops true)::kk,s)=(.reg id ops true l::kk,s'.put4 d1 d2 d3 d4 x1 x2 x3 x4):=fun l x1 x2 x3 x4=>by unfold Avs;simp only[hs']
  simp only[e0]at H1 H2 H3 H4 k;refine Sym.reg_tree Ba.mx h1 (Ob.autos hs' ?_);rw[Awx s' d1 d2 d3 d4];generalize s'.tm d1=x1;generalize s'.tm d2=x2;generalize s'.tm d3=x3;generalize s'.tm d4=x4;have lay1:∀ {Fin x1 x2 x3 x4 u m},(∀ g m',(L1.arr g).At m m'->Fin (s'.put4 d1 d2 d3 d4 (.v (L1.v g)) x2 x3 x4) u m')->Ob P id ops true Fin [q1] (s'.put4 d1 d2 d3 d4 x1 x2 x3 x4) u m:=fun {Fin x1 x2 x3 x4 u m} hk =>
   Ob.layM L1.e L1.sz L1.bt L1.z L1.es (H1 x1 x2 x3 x4) e1 o1.ho o1.hzs o1.hsz o1.hn0 o1.hb fun g m' hA=>by rw[Azt hne];exact hk g m' hA
  have lay2:∀ {Fin g1 x2 x3 x4 u m},(∀ g m',((L2 g1).arr g).At m m'->Fin (s'.put4 d1 d2 d3 d4 (.v (L1.v g1)) (.v ((L2 g1).v g)) x3 x4) u m')->Ob P id ops true Fin [q2] (s'.put4 d1 d2 d3 d4 (.v (L1.v g1)) x2 x3 x4) u m:=fun {Fin g1 x2 x3 x4 u m} hk =>
   Ob.layM (L2 g1).e (L2 g1).sz (L2 g1).bt (L2 g1).z (L2 g1).es (H2 g1 x2 x3 x4) e2 (o2 g1).ho (o2 g1).hzs (o2 g1).hsz (o2 g1).hn0 (o2 g1).hb fun g m' hA=>by rw[Azs hne];exact hk g m' hA
  have cal:∀ {Fin x1 x2 x3 x4 m} (u1:PH),PH.le u u1->(∀ u',PH.le u1 u'->Fin (s'.put4 d1 d2 d3 d4 x1 x2 (.v w0) x4) u' m)->Ob P id ops true Fin [r1] (s'.put4 d1 d2 d3 d4 x1 x2 x3 x4) u1 m:=fun {Fin x1 x2 x3 x4 m} u1 hle hk =>
   Ob.callV f args (H3 x1 x2 x3 x4) e3 hc (c u1 hle) fun v u' hl hv=>by rw[Azu hne,hv];exact hk u' hl
  have lay4:∀ {Fin x1 x2 x4 u m},(∀ g m',(L4.arr g).At m m'->Fin (s'.put4 d1 d2 d3 d4 x1 x2 (.v w0) (.v (L4.v g))) u m')->Ob P id ops true Fin [r2] (s'.put4 d1 d2 d3 d4 x1 x2 (.v w0) x4) u m:=fun {Fin x1 x2 x4 u m} hk =>
   Ob.layM L4.e L4.sz L4.bt L4.z L4.es (H4 x1 x2 x4) e4 o4.ho o4.hzs o4.hsz o4.hn0 o4.hb fun g m' hA=>by rw[Azk hne];exact hk g m' hA
  have leaf:∀ {g1 g2 g4 u' m'},PH.le u u'->Bag m' [L4.arr g4,(L2 g1).arr g2,L1.arr g1]->Ar4 P id ops post (Oq P fn Post kk) 0 [] (s'.put4 d1 d2 d3 d4 (.v (L1.v g1)) (.v ((L2 g1).v g2)) (.v w0) (.v (L4.v g4))) u' m':=fun hl hb=>(k _ _ _ _ _ hl hb).out;have nR2:∀ {g1 g2 x4 u' m'},PH.le u u'->Bag m' [(L2 g1).arr g2,L1.arr g1]->Ar4 P id ops post (Oq P fn Post kk) 1 [r2] (s'.put4 d1 d2 d3 d4 (.v (L1.v g1)) (.v ((L2 g1).v g2)) (.v w0) x4) u' m':=fun {g1 g2 x4 u' m'} hl hb a ha _=>by
   simp only[A02,A14,or_false]at ha;subst ha;rw[A2v];exact lay4 fun g m'' hA=>leaf hl ⟨m',hA,hb⟩
  have nQ2:∀ {g1 g4 x2 u' m'},PH.le u u'->Bag m' [L4.arr g4,L1.arr g1]->Ar4 P id ops post (Oq P fn Post kk) 1 [q2] (s'.put4 d1 d2 d3 d4 (.v (L1.v g1)) x2 (.v w0) (.v (L4.v g4))) u' m':=fun {g1 g4 x2 u' m'} hl hb a ha _=>by
   simp only[A02,A14,or_false]at ha;subst ha;rw[A2v];exact lay2 fun g m'' hA=>leaf hl (Bag.perm (A4s _ _ _) (show Bag m'' [(L2 g1).arr g,L4.arr g4,L1.arr g1] from⟨m',hA,hb⟩))
  have nQ2R2:∀ {g1 x2 x4 u' m'},PH.le u u'->Bag m' [L1.arr g1]->Ar4 P id ops post (Oq P fn Post kk) 2 [q2,r2] (s'.put4 d1 d2 d3 d4 (.v (L1.v g1)) x2 (.v w0) x4) u' m':=fun {g1 x2 x4 u' m'} hl hb a ha _=>by
   simp only[A02,A14,or_false]at ha;rcases ha with rfl|rfl
   ·rw[A2v];exact lay2 fun g m'' hA=>nR2 hl ⟨m',hA,hb⟩
   ·rw[A49 (by simpa using n24),A2v];exact lay4 fun g m'' hA=>nQ2 hl ⟨m',hA,hb⟩
  have nR1R2:∀ {g1 g2 x3 x4 u' m'},PH.le u u'->Bag m' [(L2 g1).arr g2,L1.arr g1]->Ar4 P id ops post (Oq P fn Post kk) 2 [r1,r2] (s'.put4 d1 d2 d3 d4 (.v (L1.v g1)) (.v ((L2 g1).v g2)) x3 x4) u' m':=fun {g1 g2 x3 x4 u' m'} hl hb a ha hcd=>by
   simp only[A02,A14,or_false]at ha;rcases ha with rfl|rfl
   ·rw[A2v];exact cal _ hl fun u'' hl'=>nR2 (hl.trans hl') hb
   ·have:=hcd r1 mV n34;rw[hr]at this;cases this
  have nQ1Q2:∀ {g4 x1 x2 u' m'},PH.le u u'->Bag m' [L4.arr g4]->Ar4 P id ops post (Oq P fn Post kk) 2 [q1,q2] (s'.put4 d1 d2 d3 d4 x1 x2 (.v w0) (.v (L4.v g4))) u' m':=fun {g4 x1 x2 u' m'} hl hb a ha hcd=>by
   simp only[A02,A14,or_false]at ha;rcases ha with rfl|rfl
   ·rw[A2v];exact lay1 fun g m'' hA=>nQ2 hl (Bag.perm (A4s _ _ _) (show Bag m'' [L1.arr g,L4.arr g4] from⟨m',hA,hb⟩))
   ·have:=hcd q1 mV n12;rw[hq]at this;cases this
  have nQ2R:∀ {g1 x2 x3 x4 u' m'},PH.le u u'->Bag m' [L1.arr g1]->Ar4 P id ops post (Oq P fn Post kk) 3 [q2,r1,r2] (s'.put4 d1 d2 d3 d4 (.v (L1.v g1)) x2 x3 x4) u' m':=fun {g1 x2 x3 x4 u' m'} hl hb a ha hcd=>by
   simp only[A02,A14,or_false]at ha;rcases ha with rfl|rfl|rfl
   ·rw[A2v];exact lay2 fun g m'' hA=>nR1R2 hl ⟨m',hA,hb⟩
   ·rw[A49 (by simpa using n23),A2v];exact cal _ hl fun u'' hl'=>nQ2R2 (hl.trans hl') hb
   ·have:=hcd r1 mV n34;rw[hr]at this;cases this
  have nQR2:∀ {x1 x2 x4 u' m'},PH.le u u'->Ar4 P id ops post (Oq P fn Post kk) 3 [q1,q2,r2] (s'.put4 d1 d2 d3 d4 x1 x2 (.v w0) x4) u' m':=fun {x1 x2 x4 u' m'} hl a ha hcd=>by
   simp only[A02,A14,or_false]at ha;rcases ha with rfl|rfl|rfl
   ·rw[A2v];exact lay1 fun g m'' hA=>nQ2R2 hl ⟨m',hA,trivial⟩
   ·have:=hcd q1 mV n12;rw[hq]at this;cases this
   ·rw[A49 (by simpa using n14),A49 (by simpa using n24),A2v];exact lay4 fun g m'' hA=>nQ1Q2 hl ⟨m',hA,trivial⟩
  show Ar4 P id ops post (Oq P fn Post kk) 4 [q1,q2,r1,r2] _ u m;intro a ha hcd;simp only[A02,A14,or_false]at ha;rcases ha with rfl|rfl|rfl|rfl
  ·rw[A2v];exact lay1 fun g m'' hA=>nQ2R (PH.le_refl _) ⟨m,hA,trivial⟩
  ·have:=hcd q1 mV n12;rw[hq]at this;cases this
  ·rw[A49 (by simpa using n13),A49 (by simpa using n23),A2v];exact cal _ (PH.le_refl _) fun u'' hl'=>nQR2 hl'
  ·have:=hcd r1 mV n34;rw[hr]at this;cases this
 ·cases h
end rules
end
section
structure Arn (u:PH)(v cv:Value)(T:List (List UInt8×Nat))(R:List Bk)(F:List Ao)(lab:Int)(C:CF)(K k:Nat):Prop where
 sch:F1 u v T R F lab
 ok:Bn u T R F lab
 cof:H7 u cv C K
 sC:CFS C
 vC:CFV C
 K:K<=10000
 bel:∀ p,C.s p≠0->Aar F lab p
 mom:Iq C k
 p24:∀ P,R1 F C P->P.length<=24
 lab0:0<=lab
section
variable {u:PH} {v cv:Value} {T:List (List UInt8×Nat)} {R:List Bk} {F:List Ao} {lab:Int} {C:CF} {K k:Nat} {P:List Par}
theorem Arn.mono {u':PH}(h:Arn u v cv T R F lab C K k)(hl:PH.le u u'):Arn u' v cv T R F lab C K k :=
 ⟨h.sch.mono hl,h.ok.mono hl,h.cof.mono hl,h.sC,h.vC,h.K,h.bel,h.mom,h.p24,h.lab0⟩
def Atd (C:CF)(P:List Par)(i:Nat):List (List Rat):=((Ak P).take (i+1)).map (As C none)::(P.take i).map fun p=>(Ak P).map (As C (some p))
theorem Awy:Atd C P P.length=M8 C P:=by
 unfold Atd M8;rw[show (Ak P).take (P.length+1)=Ak P by rw[A03 (by rw[Bo];omega)],List.take_length]
 conv=>rhs;rw[show Ak P=none::P.map some from rfl]
 rw[List.map_cons,List.map_map];rfl
theorem Avp (h:Arn u v cv T R F lab C K k) :
 Ai prog 210 [v,cv] u PH.mt fun r u' m'=>∃ (P:List Par) (pa:Option Addr) (pc:Nat) (xa:Option Addr) (xc:Nat) (ra:Option Addr) (rc:Nat) (rows:List (Value×List Value)),R1 F C P /\
  r=.tuple #[.agg #[.slice pa P.length pc,.slice xa (P.length+1) xc,.slice ra (P.length+1) rc],.int .i64 0]/\Ab u' (.slice pa P.length pc) 2 (P.map An)/\rows.map (·.2)=(M8 C P).map txV /\
  Bag m' (E8 (.slice ra (P.length+1) rc,txV ((Ak P).map (Ay C)))::oT (.slice xa (P.length+1) xc) rows::rows.map E8):=by
 have hprm:=Aba h.sch h.ok h.cof h.sC h.vC (A0q h.K oV) h.bel;have h24:=h.p24;have hK:=h.K;have hlab:=h.lab0;have hS:=fun (u':PH) (l:PH.le u u') (p:Par)=>A0g p (h.cof.mono l) oV;have hQ:=fun (u':PH) (l:PH.le u u') (p q:Par)=>Aw9 p q (h.cof.mono l) oV;obtain⟨xa,xc,xb,xd,xe,xf,rfl,_⟩:=id h.sch;obtain⟨a1,n1,c1,a2,n2,c2,rfl⟩:=id h.cof.opn;refine Ai.o func210 ?_;refine G.c call114 hprm ?_;intro v1 u1 l1 hp;obtain⟨ps,P,rfl,hL,_,hPL⟩:=hp.resolve_left fun⟨_,L,h1,hPL⟩=>by have:=h24 L hPL;omega
 have hP24:=h24 P hPL;have hEl:=Bo P;obtain⟨pa,pc,rfl⟩:=hL.opn;rw[A0p]at hL⊢;refine G.nF 0 0 ?_;refine G.lF lab 0 ?_;refine G.fan [0,1,2,5,6,10] 3 4 7 8 [9,11] 33 34 37 38 ⟨33,1,16,.string (mkS []),[.string (mkS (Af C.c))]⟩ (fun g=>⟨84,1,24,.slice none 0 0,[.slice (some ⟨g,0,none⟩) 1 1]⟩) ⟨33,1,16,.string (mkS []),[.string (mkS (Af (C.s Aq)))]⟩ (.string (mkS (Af (C.s Aq)))) _ _ kV
  (fun _ _ _ _=>kV) ⟨Jp _,rfl,A6e,A6e,mV⟩ (fun _ _ _ _=>kV) (fun _=>⟨Gt _ _ _,rfl,A6e,A6e,mV⟩) (fun _ _ _ _=>kV) call258 (fun u' l=>hS u' (l1.trans l) Aq) (fun _ _ _=>kV) ⟨Jp _,rfl,A6e,A6e,mV⟩ ?_
 intro g3 g4 g5 u2 m5 l2 hb5;refine G.l (ι:=Nat×(Option Addr×Nat)×(Option Addr×Nat)×List (Value×List Value)) (fun i=>[(3,.p 1 0),(4,.p 2 0),(6,sV pa P.length pc),(8,.p 6001 0),(9,.p 7010 0),(40,sV pa P.length pc),(41,iV P.length),(42,iV i.1)])
  (fun i=>[(1,⟨37,[tV (Af C.c),sV a1 n1 c1,sV a2 n2 c2]⟩),(2,⟨103,[sV none 0 0,sV none 0 0,sV none 0 0]⟩),(6001,⟨79,[iV (-1),tV []]⟩),
   (7010,⟨103,[.v (.slice pa P.length pc),.v (.slice i.2.1.1 (i.1+1) i.2.1.2),.v (.slice i.2.2.1.1 (i.1+1) i.2.2.1.2)]⟩)])
  (fun i u' m'=>i.1<=P.length/\i.2.2.2.map (·.2)=(Atd C P i.1).map txV/\Bag m' (E8 (.slice i.2.2.1.1 (i.1+1) i.2.2.1.2,txV (((Ak P).take (i.1+1)).map (Ay C)))::oT (.slice i.2.1.1 (i.1+1) i.2.1.2) i.2.2.2::i.2.2.2.map E8)) (fun i=>P.length-i.1)
  (0,(some ⟨g4,0,none⟩,1),(some ⟨g5,0,none⟩,1),[(.slice (some ⟨g3,0,none⟩) 1 1,txV [C.c])])
  ⟨oV,by unfold Atd Ak;rfl,hb5⟩ ?_
 clear hb5;rintro J ⟨i,⟨ya,yc⟩,⟨ra,rc⟩,rows⟩ hJ u5 m5 l5 ⟨hi,hrows,hbag⟩;simp only at hi hrows hbag hJ;have le5:=(l1.trans l2).trans l5;have hrl:rows.length=i+1:=by have:=congrArg A35 hrows;rw[A0p,A0p]at this;rw[this];simp[Atd];omega
 by_cases hlt:i<P.length
 ·refine G.lT (i:Int) (P.length:Int) ?_;obtain⟨p,hpi⟩:∃ p,P[i]?=some p:=⟨_,A0n hlt⟩;have htk:(Ak P).take (i+1+1)=(Ak P).take (i+1)++[some p]:=by rw[Hg,Hg,A1c,hpi];simp
  obtain⟨bp,op,e0,ep⟩:=Ab.at' (hL.mono (l2.trans l5)) (j:=i) (e:=An p) (by simp[hpi]);subst e0;refine G.a bp op P.length pc i 2 hlt ?_;refine G.lU (some 2) bp (op+i*2) (.agg #[.int .i64 p.1,.string (mkS p.2)]) ep ?_;obtain⟨go,co,eo⟩:=hbag.ptr 1 rfl (fun e=>by
   have:(rows.map (·.1)).length=0:=by rw[show rows.map (·.1) = [] from e];rfl
   rw[A0p]at this;omega)
  have eo2:(A06 ya (i+1) yc)=.slice (some ⟨go,0,none⟩) (i+1) co:=by
   have e1:(oT (.slice ya (i+1) yc) rows).v=A06 ya (i+1) yc:=rfl;rw[e1]at eo;rw[eo];have:(oT (.slice ya (i+1) yc) rows).es.length=i+1:=by show (rows.map (·.1)).length=_;rw[A0p,hrl]
   rw[this]
  cases eo2;obtain⟨⟨v0,e0⟩,hr0⟩:∃ x,rows[0]?=some x:=⟨_,A0n oV⟩;have he0:e0=txV (((Ak P).take (i+1)).map (As C none)):=by
   have h1:=congrArg (fun l=>l[0]?) hrows;simp only[A0v,hr0]at h1;simpa[Atd] using h1
  subst he0;have hl0:(txV (((Ak P).take (i+1)).map (As C none))).length=i+1:=by rw[Fu,A0p,A00];omega
  obtain⟨z0,zc0,ez⟩:=hbag.shape 2 (x:=E8 (v0,txV (((Ak P).take (i+1)).map (As C none)))) (by simp[hr0]);simp only[E8]at ez;rw[hl0]at ez;subst ez;have ho0:ElP m5 go (0+0*1) (.slice z0 (i+1) zc0):=hbag.el 1 (x:=oT (.slice (some ⟨go,0,none⟩) (i+1) yc) rows) rfl rfl (by show (rows.map (·.1))[0]?=_;rw[A0v,hr0];rfl);refine G.a go 0 (i+1) yc 0 1 oV ?_;refine G.lM none go (0+0*1) (.slice z0 (i+1) zc0) ho0 ?_;refine G.c call258 (hS u5 le5 p) ?_;rintro v6 u6 l6 rfl;refine G.B 33 1 16 (.string (mkS [])) [.string (mkS (Af (C.s p)))] (Jp _) ?_;intro g7 u7 l7 e7;obtain⟨m0,hx0,hput⟩:=hbag.focus 2 (x:=E8 (.slice z0 (i+1) zc0,txV (((Ak P).take (i+1)).map (As C none)))) (by simp[hr0]);rw[Mb]at hx0;refine G.append 33 1 16 (.string (mkS [])) m0 (txV (((Ak P).take (i+1)).map (As C none))) [.string (mkS (Af (C.s p)))] (.slice z0 (i+1) zc0) g7 0 1 1 kV rfl rfl oV hx0 e7 (Jp _) rfl oV (by rw[hl0];omega) (by rw[hl0];omega) ?_;intro v8 m8 hA8;have e8:txV (((Ak P).take (i+1)).map (As C none))++[.string (mkS (Af (C.s p)))]=txV (((Ak P).take (i+1+1)).map (As C none)):=by rw[htk,A07,Sl];rfl
  rw[e8]at hA8;have hl2:(txV (((Ak P).take (i+1+1)).map (As C none))).length=i+1+1:=by rw[Fu,A0p,A00];omega
  obtain⟨a8,c8,rfl⟩:=hA8.shape;rw[hl2]at hA8⊢;have hb8:=hput (E8 (.slice a8 (i+1+1) c8,txV (((Ak P).take (i+1+1)).map (As C none)))) m8 hA8;obtain⟨m1,hx1,hput1⟩:=hb8.focus 1 rfl;rw[Amu]at hx1;refine G.a go 0 (i+1) yc 0 1 oV ?_;refine G.storeA 1 m1 _ go (i+1) yc 0 (.slice a8 (i+1+1) c8) kV hx1 gV rfl rfl ?_;intro m9 hA9;have hb9:=hput1 (oT (.slice (some ⟨go,0,none⟩) (i+1) yc) (rows.set 0 (.slice a8 (i+1+1) c8,txV (((Ak P).take (i+1+1)).map (As C none))))) m9 (by rw[Amu,A27];exact hA9);obtain⟨rows9,hrows9⟩:∃ r,r=rows.set 0 (.slice a8 (i+1+1) c8,txV (((Ak P).take (i+1+1)).map (As C none))):=⟨_,rfl⟩;have hb9':Bag m9 (E8 (.slice ra (i+1) rc,txV (((Ak P).take (i+1)).map (Ay C)))::oT (.slice (some ⟨go,0,none⟩) (i+1) yc) rows9::rows9.map E8):=by
   rw[hrows9,A27];simpa using hb9
  have hr9:rows9.map (·.2)=(((Ak P).take (i+1+1)).map (As C none)::(P.take i).map fun p=>(Ak P).map (As C (some p))).map txV:=by
   rw[hrows9,A27,hrows];rfl
  have hrl9:rows9.length=i+1:=by rw[hrows9,A3u];exact hrl
  clear hb9 hb8 hput hput1 hx0 hx1 hbag hrows hr0 ho0;have le7:=(le5.trans l6).trans l7;refine G.c call258 (hS u7 le7 p) ?_;rintro v10 u10 l10 rfl;refine G.buildM 33 1 16 (.string (mkS [])) [.string (mkS (Af (C.s p)))] kV (Jp _) rfl oV mV mV ?_;intro g11 m11 hA11;have le10:=le7.trans l10;have hL10:=hL.mono ((((l2.trans l5).trans l6).trans l7).trans l10);refine G.l (ι:=Nat×(Option Addr×Nat)) (fun j=>[(3,.p 1 0),(4,.p 2 0),(6,sV (some ⟨bp,op,none⟩) P.length pc),(8,.p 6001 0),(9,.p 7010 0),(11,.p 10002 0),(12,sV j.2.1 (j.1+1) j.2.2),(40,sV (some ⟨bp,op,none⟩) P.length pc),(41,iV P.length),(42,iV i),(62,sV (some ⟨bp,op,none⟩) P.length pc),(63,iV P.length),(64,iV j.1)])
   (fun j=>[(1,⟨37,[tV (Af C.c),sV a1 n1 c1,sV a2 n2 c2]⟩),(2,⟨103,[sV none 0 0,sV none 0 0,sV none 0 0]⟩),(6001,⟨79,[iV (-1),tV []]⟩),
    (7010,⟨103,[.v (.slice (some ⟨bp,op,none⟩) P.length pc),.v (.slice (some ⟨go,0,none⟩) (i+1) yc),.v (.slice ra (i+1) rc)]⟩),(10002,⟨79,[.v (.int .i64 p.1),.v (.string (mkS p.2))]⟩)])
   (fun j u' m'=>j.1<=P.length/\Bag m' (E8 (.slice j.2.1 (j.1+1) j.2.2,txV (((Ak P).take (j.1+1)).map (As C (some p))))::E8 (.slice ra (i+1) rc,txV (((Ak P).take (i+1)).map (Ay C)))::oT (.slice (some ⟨go,0,none⟩) (i+1) yc) rows9::rows9.map E8)) (fun j=>P.length-j.1)
   (0,some ⟨g11,0,none⟩,1) ⟨oV,m9,hA11,hb9'⟩ ?_
  clear hb9' hA11;rintro J2 ⟨j,la,lc⟩ hJ2 u12 m12 l12 ⟨hj,hbj⟩;simp only at hj hbj hJ2;have le12:=le10.trans l12;by_cases hjl:j<P.length
  ·refine G.lT (j:Int) (P.length:Int) ?_;obtain⟨q,hqj⟩:∃ q,P[j]?=some q:=⟨_,A0n hjl⟩;have htj:(Ak P).take (j+1+1)=(Ak P).take (j+1)++[some q]:=by rw[Hg,Hg,A1c,hqj];simp
   obtain⟨bq,oq,e0,eq⟩:=Ab.at' (hL10.mono l12) (j:=j) (e:=An q) (by simp[hqj]);cases e0;refine G.a bp op P.length pc j 2 hjl ?_;refine G.lU (some 2) bp (op+j*2) (.agg #[.int .i64 q.1,.string (mkS q.2)]) eq ?_;refine G.c call259 (hQ u12 le12 p q) ?_;rintro v13 u13 l13 rfl;refine G.B 33 1 16 (.string (mkS [])) [.string (mkS (Af (C.t (Ap p q))))] (Jp _) ?_;intro g14 u14 l14 e14;obtain⟨m0,hx0,hput⟩:=hbj.focus 0 rfl;rw[Mb]at hx0;have hl1:(txV (((Ak P).take (j+1)).map (As C (some p)))).length=j+1:=by rw[Fu,A0p,A00];omega
   refine G.append 33 1 16 (.string (mkS [])) m0 (txV (((Ak P).take (j+1)).map (As C (some p)))) [.string (mkS (Af (C.t (Ap p q))))] (.slice la (j+1) lc) g14 0 1 1 kV rfl rfl oV hx0 e14 (Jp _) rfl oV (by rw[hl1];omega) (by rw[hl1];omega) ?_;intro v15 m15 hA15;have e15:txV (((Ak P).take (j+1)).map (As C (some p)))++[.string (mkS (Af (C.t (Ap p q))))]=txV (((Ak P).take (j+1+1)).map (As C (some p))):=by rw[htj,A07,Sl];rfl
   rw[e15]at hA15;have hl3:(txV (((Ak P).take (j+1+1)).map (As C (some p)))).length=j+1+1:=by rw[Fu,A0p,A00];omega
   obtain⟨a15,c15,rfl⟩:=hA15.shape;rw[hl3]at hA15⊢;have hb15:=hput (E8 (.slice a15 (j+1+1) c15,txV (((Ak P).take (j+1+1)).map (As C (some p))))) m15 hA15;refine G.i j ?_;exact G.b (hJ2 (j+1,a15,c15) _ _ _ cV ((l12.trans l13).trans l14) ⟨dV,hb15⟩ dV)
  obtain rfl:j=P.length:=oV
  refine G.lF (P.length:Int) (P.length:Int) ?_;clear hJ2;rw[show (Ak P).take (P.length+1)=Ak P by rw[A03 oV]]at hbj;refine G.B 84 1 24 (.slice none 0 0) [.slice la (P.length+1) lc] (Gt _ _ _) ?_;intro g16 u16 l16 e16;obtain⟨m0,hx0,hput⟩:=hbj.focus 2 rfl;rw[Amu]at hx0;refine G.k 84 1 24 (.slice none 0 0) m0 (rows9.map (·.1)) [.slice la (P.length+1) lc] (.slice (some ⟨go,0,none⟩) (i+1) yc) g16 0 1 1 hx0 e16 (Gt _ _ _) ?_;intro v17 m17 hA17;have em:rows9.map (·.1)++[A06 la (P.length+1) lc]=(rows9++[(A06 la (P.length+1) lc,txV ((Ak P).map (As C (some p))))]).map (·.1):=mV
  rw[em]at hA17;obtain⟨a17,c17,rfl⟩:=hA17.shape;have el:((rows9++[(A06 la (P.length+1) lc,txV ((Ak P).map (As C (some p))))]).map (·.1)).length=i+1+1:=by simp[hrl9]
  rw[el]at hA17⊢;have hb17:=hput (oT (.slice a17 (i+1+1) c17) (rows9++[(A06 la (P.length+1) lc,txV ((Ak P).map (As C (some p))))])) m17 hA17;have hb18:=Bag.perm Afg hb17;have le16:=le12.trans l16;refine G.c call259 (hQ u16 le16 Aq p) ?_;rintro v19 u19 l19 rfl;refine G.B 33 1 16 (.string (mkS [])) [.string (mkS (Af (C.t (Ap Aq p))))] (Jp _) ?_;intro g20 u20 l20 e20;have hb19:Bag m17 (E8 (.slice ra (i+1) rc,txV (((Ak P).take (i+1)).map (Ay C)))::oT (.slice a17 (i+1+1) c17) (rows9++[(A06 la (P.length+1) lc,txV ((Ak P).map (As C (some p))))])::(rows9++[(A06 la (P.length+1) lc,txV ((Ak P).map (As C (some p))))]).map E8):=by simpa using hb18
  obtain⟨m2,hx2,hput2⟩:=hb19.focus 0 rfl;rw[Mb]at hx2;have hl4:(txV (((Ak P).take (i+1)).map (Ay C))).length=i+1:=by rw[Fu,A0p,A00];omega
  refine G.append 33 1 16 (.string (mkS [])) m2 (txV (((Ak P).take (i+1)).map (Ay C))) [.string (mkS (Af (C.t (Ap Aq p))))] (.slice ra (i+1) rc) g20 0 1 1 kV rfl rfl oV hx2 e20 (Jp _) rfl oV (by rw[hl4];omega) (by rw[hl4];omega) ?_;intro v21 m21 hA21;have e21:txV (((Ak P).take (i+1)).map (Ay C))++[.string (mkS (Af (C.t (Ap Aq p))))]=txV (((Ak P).take (i+1+1)).map (Ay C)):=by rw[htk,A07,Sl];rfl
  rw[e21]at hA21;have hl5:(txV (((Ak P).take (i+1+1)).map (Ay C))).length=i+1+1:=by rw[Fu,A0p,A00];omega
  obtain⟨a21,c21,rfl⟩:=hA21.shape;rw[hl5]at hA21⊢;have hb21:=hput2 (E8 (.slice a21 (i+1+1) c21,txV (((Ak P).take (i+1+1)).map (Ay C)))) m21 hA21;refine G.i i ?_;refine G.b (hJ (i+1,(a17,c17),(a21,c21),rows9++[(A06 la (P.length+1) lc,txV ((Ak P).map (As C (some p))))]) _ _ _ cV (((((((l5.trans l6).trans l7).trans l10).trans l12).trans l16).trans l19).trans l20) ⟨dV,?_,hb21⟩ dV);dsimp only;rw[A07,hr9];unfold Atd;rw[show P.take (i+1)=P.take i++[p] by rw[A1c,hpi];rfl];simp
 obtain rfl:i=P.length:=oV
 refine G.lF (P.length:Int) (P.length:Int) ?_;rw[Awy]at hrows;rw[show (Ak P).take (P.length+1)=Ak P by rw[A03 oV]]at hbag;exact G.r (.tuple #[.agg #[.slice pa P.length pc,.slice ya (P.length+1) yc,.slice ra (P.length+1) rc],.int .i64 0]) ⟨P,pa,pc,ya,yc,ra,rc,rows,hPL,rfl,hL.mono (l2.trans l5),hrows,hbag⟩
end
end
section
section
variable {P:List Par} {C:CF} {q:Rat} {N k:Nat} {b:Option Par->Rat}
end
end
section
end
section
section
variable {u:PH} {v cv mv:Value} {T:List (List UInt8×Nat)} {R:List Bk} {F:List Ao} {lab:Int} {C:CF} {K k:Nat} {P:List Par} {m0:Rat} {M:List (Par×Rat)}
end
end
section
section
variable {u:PH} {v cv av bv:Value} {T:List (List UInt8×Nat)} {R:List Bk} {F:List Ao} {lab:Int} {C:CF} {K k:Nat} {P:List Par} {a0 b0:Rat} {A B:List (Par×Rat)}
end
end
section
section
variable {P:List Par} {C:CF} {k:Rat} {m0:Rat} {M:List (Par×Rat)}
end
end
section
section
variable {u:PH} {v cv av bv:Value} {T:List (List UInt8×Nat)} {R:List Bk} {F:List Ao} {lab:Int} {C:CF} {K k:Nat} {P:List Par} {a0 b0:Rat} {A B:List (Par×Rat)}
end
end
section
theorem Xi {u:PH}{T:List (List UInt8×Nat)}{R:List Bk}{F:List Ao}{lab:Int}(ok:Bn u T R F lab):∀ l:Nat,lab=(l:Int)->l<T.length:=fun l hl=>by
 obtain⟨n,hn⟩:=ok.l2 l hl;exact (A0s.1 hn).1
end
section
theorem Am7 (t:List UInt8)(v:Rat)(h:∀ n:Fin 19,∀ d:Fin 13,d.val≠0->Af (A2m ((n.val:Int)-9) (d.val:Int))=t->A2m ((n.val:Int)-9) (d.val:Int)=v){q:Rat}(hq:SmR q)(e:Af q=t):q=v:=by
 have h1:=hq.num;have h2:=hq.le;have h3:=q.den_pos;have h4:=h ⟨(q.num+9).toNat,oV⟩ ⟨q.den,oV⟩ (by simpa using by omega);simp only at h4;rw[show (((q.num+9).toNat:Nat):Int)-9=q.num by omega,A66]at h4;exact h4 e
theorem Alj:SmR 2:=⟨jV,jV⟩
end
section
end
section
section
variable {u:PH} {v cv mv:Value} {T:List (List UInt8×Nat)} {R:List Bk} {F:List Ao} {lab:Int} {C:CF} {K k:Nat} {P:List Par} {m0:Rat} {M:List (Par×Rat)}
end
end
section
section
variable [Cc] {P:Program} [Ba P] {fn:Func} {Post:B0} {st:List KI×S} {u m:PH}
end
end
section
theorem Aug {q:Rat}(h:0<q):0<q.num:=by
 have h1:0<=q.num:=Rat.num_nonneg.2 (Ba0 h);have h2:q.num≠0:=fun e=>by
  rw[Rat.num_eq_zero]at e;rw[e]at h;exact absurd h jV
 omega
theorem Ayq {u:PH}{p q:Rat}(ht:Lb u)(hp:Tx p)(hq:Tx q)(hs:Tx (p+q)):Fn0 prog 145 [.string (mkS (Af p)),.string (mkS (Af q))] u fun v _=>v=.tuple #[.string (mkS (Af (p+q))),.int .i64 0]:=by
 have hap:Fn0 prog 211 [.string (mkS (Af p)),.string (mkS (Af q)),.func (.func 76) #[] #[]] u fun v _=>v=.tuple #[.string (mkS (Af (p+q))),.int .i64 0]:=by
  refine Fn0.o func211 ?_;refine G.B 33 1 16 (.string (mkS [])) [.string (mkS (Af p)),.string (mkS (Af q))] (Cu [Af p,Af q]) ?_;intro g u1 l1 e1;have hS:Fe u1 (.slice (some ⟨g,0,none⟩) 2 2) ([p,q].map Af):=⟨_,2,rfl,A0w _,fun j e hj=>⟨g,0,rfl,e1 j e hj⟩⟩;refine G.c call260 (Avk hS (by intro x hx;simp at hx;rcases hx with rfl|rfl;exact hp;exact hq) mV) ?_;rintro v2 u2 l2 rfl;refine G.c call77 (Iy hp) ?_;intro v3 u3 l3 k3;obtain⟨b3,a3,n3,c3,b3',a3',n3',c3',rfl⟩:=k3.opn;refine G.c call77 (Iy hq) ?_;intro v4 u4 l4 k4;obtain⟨b4,a4,n4,c4,b4',a4',n4',c4',rfl⟩:=k4.opn;refine G.c call76 (O2 (k3.mono l4) k4 (hp.sz.mono oV) (hq.sz.mono oV)) ?_;intro v5 u5 l5 k5;obtain⟨b5,a5,n5,c5,b5',a5',n5',c5',rfl⟩:=k5.opn;refine G.c call55 (Jj (ht.mono ((((l1.trans l2).trans l3).trans l4).trans l5)) k5 hs) ?_;rintro v6 u6 l6 rfl;exact G.r _ ⟨rfl,rfl⟩
 refine Fn0.o func145 ?_;refine G.c call211 hap ?_;rintro v1 u1 l1 rfl;exact G.r _ ⟨rfl,rfl⟩
structure Avj (q:Rat):Prop where
 tx:Tx q
 pos:0<q
 de:De 3 2 q
theorem Kl.w {q:Rat}(h:Kl q):Avj q:=⟨h.tx,h.pos,h.de.mono oV oV⟩
section
variable {u:PH} {v cv:Value} {T:List (List UInt8×Nat)} {R:List Bk} {F:List Ao} {lab:Int} {C:CF} {K k:Nat} {q:Rat}
theorem Atm (h:Arn u v cv T R F lab C K k)(hq:Avj q) :
 Ai prog 144 [v,cv,.string (mkS (Af q))] u PH.mt fun r u' m'=>∃ (P:List Par) (pa:Option Addr) (pc:Nat) (xa:Option Addr) (xc:Nat) (ra:Option Addr) (rc:Nat) (rows:List (Value×List Value)),R1 F C P /\
  r=.tuple #[.agg #[.slice pa P.length pc,.slice xa (P.length+1) xc,.slice ra (P.length+1) rc],.int .i64 (if k=0 then 12 else 0)]/\Ab u' (.slice pa P.length pc) 2 (P.map An)/\rows.map (·.2)=(M8 C P).map txV /\
  Bag m' (E8 (.slice ra (P.length+1) rc,txV ((Ak P).map (Ay C)))::oT (.slice xa (P.length+1) xc) rows::rows.map E8):=by
 have hmx:=Avp h;have hS:=h.mom;obtain⟨xa,xc,xb,xd,xe,xf,rfl,_⟩:=id h.sch;obtain⟨a1,n1,c1,a2,n2,c2,rfl⟩:=id h.cof.opn;refine Ai.o func144 ?_;refine G.callO _ _ kV call210 hmx ?_;rintro v1 u1 m1 l1 ⟨P,pa,pc,ya,yc,ra,rc,rows,hPL,rfl,hP,hrows,hbag⟩ _;rw[C2];refine G.nF 0 0 ?_;refine G.c call154 (Aqm hq.tx) ?_;rintro v2 u2 l2 rfl;refine G.c call115 (Zw hq.tx) ?_;rintro v3 u3 l3 rfl;have hqn:sgn q.num=1:=B9 (Aug hq.pos);refine G.kF (sgn q.num) 0 ?_;refine G.c call115 (Zw hS.tx) ?_;rintro v4 u4 l4 rfl;by_cases h0:k=0
 ·rw[if_pos h0];have hz:sgn C.c.num=0:=Aqc.2 (by rw[hS.c,h0];rfl);refine G.kT (sgn C.c.num) 0 ?_;exact G.r (.tuple #[.agg #[.slice pa P.length pc,.slice ya (P.length+1) yc,.slice ra (P.length+1) rc],.int .i64 12]) ⟨P,pa,pc,ya,yc,ra,rc,rows,hPL,rfl,hP.mono ((l2.trans l3).trans l4),hrows,hbag⟩
 ·rw[if_neg h0];have hz:sgn C.c.num=1:=B9 (Aug (hS.cpos h0));refine G.kF (sgn C.c.num) 0 ?_;exact G.r (.tuple #[.agg #[.slice pa P.length pc,.slice ya (P.length+1) yc,.slice ra (P.length+1) rc],.int .i64 0]) ⟨P,pa,pc,ya,yc,ra,rc,rows,hPL,rfl,hP.mono ((l2.trans l3).trans l4),hrows,hbag⟩
end
end
section
def Arh (m:PH)(gn:Nat)(e:Int):PH:=if e=0 then m else m.upd gn (.cells #[.slice none 0 0,.slice none 0 0,.slice none 0 0] 103 (0,0))
theorem Axj {P:Program}{T:TypeId}{z:Value}{u m:PH}{w:World}{gn:Nat}{s1 s2 s3 t1 t2 t3:Value}(hgd:Bx u m w)(hn:m gn=some (.cells #[s1,s2,s3] T (0,0)))(h1:Be t1=true)(h2:Be t2=true)(h3:Be t3=true)(hz:∀ env,pv P env (.build T #[])=some (.agg #[t1,t2,t3]))(hs:szB P T=some 3)
 {Q:Exit->Act->World->Prop} {o0 o1:Oper} (p0:o0.op=.build T #[]) (d0:o0.dst=some 4) (g0:o0.guard=none) (p1:o1.op=.store T (.tmp 1) (.tmp 4)) (d1:o1.dst=none) (g1:o1.guard=none) {id:Nat} {a:Act} (ha:a.eval (.tmp 1)=.pointer (some ⟨gn,0,none⟩)) (hl:4<a.tmps.size)
 (hk:∀ a' w',a'.defers=a.defers->Bx u (m.upd gn (.cells #[t1,t2,t3] T (0,0))) w'->Bz u m w u (m.upd gn (.cells #[t1,t2,t3] T (0,0))) w'->Q .normal a' w'):(Code.region id #[o0,o1] false).wp P Q a w:=by
 obtain⟨dst,opp,type,pos,after,guard⟩:=o0;obtain⟨dst1,opp1,type1,pos1,after1,guard1⟩:=o1;simp only at p0 d0 g0 p1 d1 g1;subst p0 d0 g0 p1 d1 g1;have e0:(execOp a.eval ⟨some 4,.build T #[],type,pos,after,none⟩).run P w=.ok (.value (.agg #[t1,t2,t3])) w:=Aju (hz _) w;have hv1:(a.put (some 4) (.agg #[t1,t2,t3])).eval (.tmp 1)=.pointer (some ⟨gn,0,none⟩):=by
  rw[<-ha];simp[Act.eval,Act.put]
 have hv4:(a.put (some 4) (.agg #[t1,t2,t3])).eval (.tmp 4)=.agg #[t1,t2,t3]:=by
  simp[Act.eval,Act.put,hl]
 have hcell:∀ x∈(#[t1,t2,t3]:Array Value).toList,Be x=true:=fun x hx=>by
  simp at hx;rcases hx with rfl|rfl|rfl<;>assumption
 obtain⟨k1,k2⟩:=hgd.setM hn hcell;have e1:(execOp (a.put (some 4) (.agg #[t1,t2,t3])).eval ⟨none,.store T (.tmp 1) (.tmp 4),type1,pos1,after1,none⟩).run P w=.ok .skip (w.setRow gn #[t1,t2,t3]):=by
  have hst:=run_storeCells_at P gn 0 T [t1,t2,t3] 0 #[s1,s2,s3] w (hgd.pm gn _ hn) mV (fun x hx=>Aqt (hcell x (by simpa using hx)));simp only[execOp,hv1,hv4];simp[Instr.storeAt,A3x,storeVar,Bf hs,A1e]at hst⊢;rw[hst];rfl
 refine wp_region ?_;refine .inl ?_;show Oper.upon P ⟨some 4,.build T #[],type,pos,after,none⟩ a _ _ ((execOp a.eval ⟨some 4,.build T #[],type,pos,after,none⟩).run P w);rw[e0,Oper.upon_value];show wpOps P _ _ [1] (a.put (some 4) (.agg #[t1,t2,t3])) w;refine .inl ?_;show Oper.upon P ⟨none,.store T (.tmp 1) (.tmp 4),type1,pos1,after1,none⟩ (a.put (some 4) (.agg #[t1,t2,t3])) _ _ ((execOp (a.put (some 4) (.agg #[t1,t2,t3])).eval ⟨none,.store T (.tmp 1) (.tmp 4),type1,pos1,after1,none⟩).run P w);rw[e1,Oper.upon_skip];exact hk _ _ rfl k1 k2
theorem Au8 {u m:PH}{ge gn:Nat}{e:Int}{s1 s2 s3:Value}(he:m ge=some (.cells #[.int .i64 e] 43 (0,0)))(hn:m gn=some (.cells #[s1,s2,s3] 103 (0,0)))(h1:Be s1=true)(h2:Be s2=true)(h3:Be s3=true) :
 Avc prog 143 [.pointer (some ⟨ge,0,none⟩),.pointer (some ⟨gn,0,none⟩)] u m (fun u' m'=>u'=u/\m'=Arh m gn e):=by
 intro w hgd;refine (callsDIn_of_wp (R:=fun e' w'=>∃ v u' m',e'=.returned v/\Bx u' m' w'/\Bz u m w u' m' w'/\u'=u/\m'=Arh m gn e) func143 rfl trivial (wpIn_wide.2 ?_) rfl).mono (fun e' md w' h=>h);have hl:∀ ev:Operand->Value,∀ o:Oper,o.op=.load 43 (.tmp 0)->ev (.tmp 0)=.pointer (some ⟨ge,0,none⟩)->(execOp ev o).run prog w=.ok (.value (.int .i64 e)) w:=fun ev o ho hv=>by
  obtain⟨dst,opp,type,pos,after,guard⟩:=o;simp only at ho;subst ho;have hel:ElP m ge 0 (.int .i64 e):=fun i x hi=>by
   match i,hi with
   |0,hi=>exact⟨_,_,_,he,by simpa[A1e] using hi⟩
  have hr:=Tt (P:=prog) (t:=43) (k:=none) kV rfl hel hgd.pm;simp[execOp,Instr.loadAt,A3x,hv];rw[hr];rfl
 have hb:∀ ev:Operand->Value,∀ o:Oper,o.op=.binOp .neq 43 (.tmp 2) (.const (.int .i64 0)) 43->ev (.tmp 2)=.int .i64 e->ev (.const (.int .i64 0))=.int .i64 0->(execOp ev o).run prog w=.ok (.value (.bool (decide (e≠0)))) w:=fun ev o ho hv hv2=>by
  obtain⟨dst,opp,type,pos,after,guard⟩:=o;simp only at ho;subst ho;have hg:∀ t X Y,(eqGuard .neq t X Y (.int .i64 e) (.int .i64 0)).run prog w=.ok () w:=fun t X Y=>Cy t X Y w;have hr:∀ t,(binOp .neq t (.int .i64 e) (.int .i64 0)).run prog w=.ok (.bool (decide (e≠0))) w:=fun t=>by
   simp[binOp,Op.intCmp]
   try (rw[Bool.eq_iff_iff];simp)
  simp[execOp,hv,hv2,hg,hr]
 refine wp_seq (wp_region ?_);refine .inl ?_;show Oper.upon _ _ _ _ _ ((execOp _ _).run _ _);rw[hl _ _ rfl rfl,Oper.upon_value];refine .inl ?_;show Oper.upon _ _ _ _ _ ((execOp _ _).run _ _);rw[hb _ _ rfl rfl rfl,Oper.upon_value];by_cases h0:e=0
 ·rw[show decide (e≠0)=false by simp[h0]];refine wp_cond_false rfl (wp_skip ?_);refine bodyPost_end (results_none rfl _ _ _) rfl ?_;exact⟨_,_,_,rfl,hgd,Bz.refl _ _ _,rfl,by unfold Arh;rw[if_pos h0]⟩
 ·rw[show decide (e≠0)=true by simp[h0]];refine wp_cond_true rfl ?_;refine Axj (z:=undef) hgd hn (t1:=.slice none 0 0) (t2:=.slice none 0 0) (t3:=.slice none 0 0) rfl rfl rfl (fun env=>kV) kV rfl rfl rfl rfl rfl rfl rfl (Nat.lt_of_lt_of_eq (by decide:4<5) rfl) ?_;intro a' w' hd k1 k2;refine bodyPost_end (results_none rfl _ _ _) hd ?_;exact⟨_,_,_,rfl,k1,k2,rfl,by unfold Arh;rw[if_neg h0]⟩
end
end Go.Proofs.YtanfagpabkdmiaaGreatDoor
