/- Parts of one proof, joined by a program. -/
import Derived.Test.YtanfagpabkdmiaaGreatDoorN11
set_option linter.unusedVariables false
set_option linter.unusedSimpArgs false
set_option linter.unusedSectionVars false
set_option maxHeartbeats 16000000
namespace Go.Proofs.YtanfagpabkdmiaaGreatDoor
open Go.Proofs.Tryz
open Go.RowKit Go.MapKept
open _root_.Array renaming length_toList -> A29
open Int renaming natAbs_mul -> A30, natAbs_natCast -> A1z
open List renaming any_eq_false -> A7i, append_assoc -> A1j, cons.inj -> A8w, getD_cons_succ -> A5b, getD_eq_getElem?_getD -> A0o, getElem?_append_left -> A1d, getElem?_append_right -> A1s, getElem?_eq_getElem -> A0n, getElem?_eq_some_iff -> A0s, getElem?_map -> A0v, getElem?_range -> A52, getElem_map -> A4r, getElem_mem -> A04, getElem_of_mem -> A19, length -> A35, length_append -> A0z, length_cons -> A2n, length_map -> A0p, length_set -> A3u, length_take -> A00, map_append -> A07, map_cons -> A1y, map_map -> A9e, map_set -> A27, mem_append -> A01, mem_append_left -> A24, mem_cons -> A02, mem_cons_of_mem -> A1w, mem_cons_self -> A3r, mem_flatMap -> A7s, mem_iff_getElem -> A2u, mem_map -> A0u, mem_of_getElem? -> A1b, nil_append -> A2t, pairwise_iff_getElem -> A3q, range -> A1q, replicate -> A0x, set_append_left -> A78, set_append_right -> A4k, set_cons_succ -> A2c, set_cons_zero -> A2k, take_length -> A1k, take_of_length_le -> A03
open Nat renaming add_mul -> A1o, div_eq_of_lt -> A4a, div_le_self -> A3v, eq_zero_or_pos -> A1p, le_of_dvd -> A5s, le_refl -> A0w, le_trans -> A0q, lt_of_le_of_lt -> A2q, lt_or_ge -> A11, mul_comm -> A10, mul_le_mul -> A3j, mul_le_mul_right -> A12, one_mul -> A3d, pow_le_pow_right -> A1l, zero_add -> A2b, zero_le -> A1m
open Option renaming map_some -> A3h, some.inj -> A2d, some.injEq -> A0t
open Prod renaming mk.injEq -> A1r
open Rat renaming divInt -> A2m, divInt_eq_div -> A4h, div_def -> A7l, intCast_add -> A48, intCast_inj -> Bbx, intCast_le_intCast -> A3t, intCast_mul -> A23, intCast_natCast -> A2j, intCast_neg -> A6x, intCast_sub -> Bbw, le_of_lt -> Ba0, le_refl -> Bbd, le_total -> A8c, mul_eq_zero -> A6c, mul_inv_cancel -> A8u, mul_nonneg -> A2f, mul_pos -> Bbe, mul_zero -> Bcn, natCast_add -> A60, natCast_le_natCast -> A5k, natCast_mul -> A6b, not_lt -> A99, num_divInt_den -> A66
open Value renaming agg -> A8q, cells -> A1e, slice.injEq -> A09, string -> Baq
section
variable {M:List (Par×Rat)}{P:List Par}{m0:Rat}{u:PH}{v:Value}{x:Par×Rat}
structure Ar9 (u:PH)(v:Value)(m0:Rat)(M:List (Par×Rat)):Prop where
 val:∃ a c,v=.agg #[.string (mkS (Af m0)),.slice a M.length c]/\Ab u (.slice a M.length c) 3 (M.map A5)
theorem Ar9.mono {u u':PH}{v:Value}{m0:Rat}{M:List (Par×Rat)}(h:Ar9 u v m0 M)(hl:PH.le u u'):Ar9 u' v m0 M:=by
 obtain⟨a,c,e,h1⟩:=h.val;exact⟨a,c,e,h1.mono hl⟩
structure Ew (P:List Par)(m0:Rat)(M:List (Par×Rat)):Prop where
 c:Tx m0
 t:∀ x∈M,Tx x.2
 srt:Ef A8 (M.map (·.1))
 sub:∀ x∈M,x.1∈P
 len:M.length<=P.length
def cfE (m0:Rat)(M:List (Par×Rat)):Option Par->Rat
 |none=>m0
 |some p=>Bi p M
theorem Wq (hP:Ab u v 2 (P.map An))(hs:Ef A8 P)(hl:P.length<=1000000) :
 Fn0 prog 131 [v] u fun r _=>r=.bool true:=by
 obtain⟨pa,pc,rfl⟩:=hP.opn;rw[A0p]at hP⊢;refine Fn0.o func131 ?_;refine G.l (ι:=Nat) (fun i=>[(0,sV pa P.length pc),(3,iV i)]) (fun _=>[])
  (fun i u' m'=>1<=i/\m'=PH.mt) (fun i=>P.length-i) 1 ⟨oV,rfl⟩ ?_
 rintro J i hJ u2 m2 l2 ⟨hi,rfl⟩;by_cases hlt:i<P.length
 ·refine G.lT (i:Int) (P.length:Int) ?_;have hP2:=hP.mono l2;have hPi:P[i]?=some P[i]:=A0n hlt;have hPj:P[i-1]?=some (P[i-1]'oV):=A0n oV;have hcm:A8 (P[i-1]'oV) P[i]<0:=A3q.1 hs (i-1) i oV hlt oV;obtain⟨ba,oa,e0,ea⟩:=Ab.at' hP2 (j:=i) (e:=An P[i]) (by simp[hPi]);obtain⟨ba',oa',e0',eb⟩:=Ab.at' hP2 (j:=i-1) (e:=An (P[i-1]'oV)) (by simp[hPj]);rw[e0]at e0';cases e0';subst e0;refine G.s (i:Int) 1 ((i-1:Nat):Int) ?_;refine G.a ba oa P.length pc (i-1) 2 oV ?_;refine G.lU (some 2) ba (oa+(i-1)*2) (An (P[i-1]'oV)) eb ?_;refine G.a ba oa P.length pc i 2 hlt ?_;refine G.lU (some 2) ba (oa+i*2) (An P[i]) ea ?_;refine G.c call206 (U5 _ _ true (decide_eq_true hcm)) ?_;rintro v3 u3 l3 rfl;refine G.i i ?_;exact G.b (hJ (i+1) _ _ _ cV (l2.trans l3) ⟨oV,rfl⟩ oV)
 ·refine G.lF (i:Int) (P.length:Int) ?_;exact G.r (.bool true) ⟨rfl,rfl⟩
theorem Sd (h:Ar9 u v m0 M)(hl:M.length<=100000) :
 Fn0 prog 128 [v] u fun r u'=>Ab u' r 2 ((M.map (·.1)).map An):=by
 obtain⟨a,c,rfl,hM⟩:=h.val;refine Fn0.o func128 ?_;refine G.l (ι:=Nat×(Option Addr×Nat)) (fun i=>[(3,sV i.2.1 (M.take i.1).length i.2.2),(7,sV a M.length c),(8,iV M.length),(9,iV i.1)]) (fun _=>[])
  (fun i u' m'=>i.1<=M.length/\Ae PH.mt m' (.slice i.2.1 (M.take i.1).length i.2.2) 79 2 (((M.take i.1).map (·.1)).map An)) (fun i=>M.length-i.1) (0,(none,0)) ⟨oV,Ae.nil _ _ _⟩ ?_
 rintro J ⟨i,⟨pa,pc⟩⟩ hJ u2 m2 l2 ⟨hi,hA⟩;simp only at hi hA hJ;by_cases hlt:i<M.length
 ·refine G.lT (i:Int) (M.length:Int) ?_;obtain⟨x,hMi⟩:∃ x,M[i]?=some x:=⟨_,A0n hlt⟩;have htk:=E6 hMi;have htl:(M.take i).length=i:=by rw[A00];omega
  obtain⟨ba,oa,rfl,ea⟩:=Ab.at' (hM.mono l2) (j:=i) (e:=A5 x) (by simp[hMi]);refine G.a ba oa M.length c i 3 hlt ?_;refine G.lU (some 3) ba (oa+i*3) (.agg #[.int .i64 x.1.1,.string (mkS x.1.2),.string (mkS (Af x.2))]) ea ?_;refine G.B 79 2 24 (.agg #[.int .i64 0,.string (mkS [])]) [.agg #[.int .i64 x.1.1,.string (mkS x.1.2)]] (Gd x.1) ?_;intro g6 u6 l6 e6;refine G.k 79 2 24 (.agg #[.int .i64 0,.string (mkS [])]) PH.mt (((M.take i).map (·.1)).map An) [An x.1] _ g6 0 1 1 hA e6 (Gd x.1) ?_;intro v7 m7 hA7;rw[show ((M.take i).map (·.1)).map An++[An x.1]=((M.take (i+1)).map (·.1)).map An by rw[htk];simp]at hA7;obtain⟨a7,c7,rfl⟩:=hA7.shape;rw[A0p,A0p]at hA7⊢;refine G.i i ?_;exact G.b (hJ (i+1,(a7,c7)) _ _ _ cV (l2.trans l6) ⟨dV,hA7⟩ dV)
 ·obtain rfl:i=M.length:=oV
  refine G.lF (M.length:Int) (M.length:Int) ?_;rw[A1k]at hA⊢;refine G.give _ _ _ kV hA (fun g=>.inl rfl) ?_;intro u3 l3 hL;exact G.r (.slice pa M.length pc) ⟨rfl,hL⟩
theorem Aic (h:Tx x.2):Fn0 prog 205 [A5 x] u fun r _=>r=.bool false:=by
 refine Fn0.o func205 ?_;refine G.c call154 (Aqm h) ?_;rintro v1 u1 l1 rfl;exact G.r (.bool false) ⟨rfl,rfl⟩
theorem Qa (h:Ar9 u v m0 M)(hl:M.length<=100000)(h0:Tx m0)(ht:∀ x∈M,Tx x.2) :
 Fn0 prog 130 [v] u fun r _=>r=.bool true:=by
 obtain⟨a,c,rfl,hM⟩:=h.val;refine Fn0.o func130 ?_;refine G.c call154 (Aqm h0) ?_;rintro v1 u1 l1 rfl;refine G.c call185 (T0 (hM.mono l1) oV call205 fun x hx u' _=>Aic (ht x hx)) ?_;rintro v2 u2 l2 rfl;exact G.r (.bool true) ⟨rfl,rfl⟩
def cfL (m0:Rat)(P:List Par)(L:List (Par×Rat)):List (List UInt8):=Af m0::P.map fun p=>Af (Bi p L)
theorem Adi (m0:Rat)(P:List Par)(L:List (Par×Rat)):(cfL m0 P L).length=P.length+1:=by unfold cfL;simp
theorem Ajk {L:List (Par×Rat)}{k:Nat}(hk:P[k]?=some x.1)(hn:P.Nodup)(hx:x.1∉L.map (·.1)):(cfL m0 P L).set (k+1) (Af x.2)=cfL m0 P (L++[x]):=by
 have:=Ae7 hk hn hx;unfold Ab9 at this;rw[A2c]at this;unfold cfL;rw[A2c,(A8w this).2]
theorem Ak5 (m0:Rat)(P:List Par)(M:List (Par×Rat)):cfL m0 P M=((Ak P).map (cfE m0 M)).map Af:=by
 unfold cfL Ak;rw[A1y,A1y,A9e,A9e];rfl
theorem Ew.tx (h:Ew P m0 M):Tx m0/\∀ x∈M,Tx x.2:=⟨h.c,h.t⟩
theorem Aj9 {pv v:Value}(hP:Ab u pv 2 (P.map An))(hs:Ef A8 P)(hl:P.length<=10000)(h:Ar9 u v m0 M)(ok:Ew P m0 M) :
 Fn0 prog 116 [pv,v] u fun r u'=>∃ lv,r=.tuple #[lv,.int .i64 0]/\Fe u' lv (((Ak P).map (cfE m0 M)).map Af):=by
 have hMl:=ok.len;have hasc:=fun (u':PH) (l:PH.le u u')=>Wq (hP.mono l) hs oV;have hnum:=fun (u':PH) (l:PH.le u u')=>Qa (h.mono l) oV ok.tx.1 ok.tx.2;have hpar:=fun (u':PH) (l:PH.le u u')=>Sd (h.mono l) oV;have hnd:=hs.nodup Dp;have hMn:=ok.srt.nodup Dp;obtain⟨pa,pc,rfl⟩:=hP.opn;obtain⟨a,c,rfl,hM⟩:=h.val;rw[A0p]at hP hasc⊢;refine Fn0.o func116 ?_;refine G.c call131 (hasc u (PH.le_refl _)) ?_;rintro v1 u1 l1 rfl;refine G.c call130 (hnum u1 l1) ?_;rintro v2 u2 l2 rfl;have le2:=l1.trans l2;refine G.c call128 (hpar u2 le2) ?_;intro v3 u3 l3 k3;obtain⟨a3,c3,rfl⟩:=Ab.opn k3;refine G.c call131 (Wq k3 ok.srt (by rw[A0p];omega)) ?_;rintro v4 u4 l4 rfl;have le4:=(le2.trans l3).trans l4;have hd0:(cfL m0 P []).map nmV = [Baq (mkS (Af m0))]++A0x P.length (Baq (mkS [48])):=by
  have:=Agp P;unfold Ab9 at this;unfold cfL;rw[(A8w this).2,A1y,List.map_replicate];rfl
 have hcl:((cfL m0 P []).map nmV).length=P.length+1:=by rw[A0p,Adi]
 have hne:(cfL m0 P []).map nmV≠[]:=by unfold cfL;simp
 refine G.joinF (ι:=Nat×Nat) (fun st=>Xy prog (Kz prog [0,1,4,5] [2,3,6,7,8] (adv prog st)) [undef,undef,undef,undef]) (fun i=>[(0,sV pa P.length pc),(3,.p 0 0),(6,sV (some ⟨i.1,0,none⟩) (P.length+1) i.2)]) (fun _=>[(0,⟨42,[tV (Af m0),sV a M.length c]⟩)])
  (fun i u' m'=>Ae PH.mt m' (.slice (some ⟨i.1,0,none⟩) (P.length+1) i.2) 33 1 ((cfL m0 P []).map nmV)) (fun _=>kV) kV ?tail ?way
 case way =>
  intro hjoin;refine G.three [0,1,4,5] 2 3 6 [7,8] 33 1 16 (.string (mkS [])) [.string (mkS [48])] kV kV (Cu [[48]]) rfl oV mV mV ?_ ?_
  ·refine G.buildM 33 1 16 (.string (mkS [])) [.string (mkS (Af m0))] kV (Cu [Af m0]) rfl oV mV mV ?_;intro g5 m5 hA5;refine G.B 33 1 16 (.string (mkS [])) [.string (mkS [48])] (Cu [[48]]) ?_;intro g6 u6 l6 e6;refine G.c call191 (Re (n:=P.length) e6.listP (Cu [[48]]) oV) ?_;intro v7 u7 l7 k7;obtain⟨a7,c7,rfl⟩:=Ab.opn k7;refine G.appendL 33 1 16 (.string (mkS [])) PH.mt [.string (mkS (Af m0))] (A0x P.length (.string (mkS [48]))) _ a7 _ c7 kV rfl rfl oV hA5 k7 ((Cu [[48]]).replicate _) gV gV ?_;intro v8 m8 hA8;rw[<-hd0]at hA8;obtain⟨b8,c8,rfl⟩:=hA8.ptr hne;rw[hcl]at hA8⊢;exact hjoin (b8,c8) _ _ _ kV cV (l6.trans l7) hA8
  ·intro g6 u6 l6 e6;refine⟨?_,?_⟩
   ·refine G.buildM 33 1 16 (.string (mkS [])) [.string (mkS (Af m0))] kV (Cu [Af m0]) rfl oV mV mV ?_;intro g5 m5 hA5;refine G.c call191 (Re (n:=P.length) e6.listP (Cu [[48]]) oV) ?_;intro v7 u7 l7 k7;obtain⟨a7,c7,rfl⟩:=Ab.opn k7;refine G.appendL 33 1 16 (.string (mkS [])) PH.mt [.string (mkS (Af m0))] (A0x P.length (.string (mkS [48]))) _ a7 _ c7 kV rfl rfl oV hA5 k7 ((Cu [[48]]).replicate _) gV gV ?_;intro v8 m8 hA8;rw[<-hd0]at hA8;obtain⟨b8,c8,rfl⟩:=hA8.ptr hne;rw[hcl]at hA8⊢;exact hjoin (b8,c8) _ _ _ kV cV (l6.trans l7) hA8
   ·refine G.c call191 (Re (n:=P.length) e6.listP (Cu [[48]]) oV) ?_;intro v7 u7 l7 k7;obtain⟨a7,c7,rfl⟩:=Ab.opn k7;refine G.buildM 33 1 16 (.string (mkS [])) [.string (mkS (Af m0))] kV (Cu [Af m0]) rfl oV mV mV ?_;intro g5 m5 hA5;refine G.appendL 33 1 16 (.string (mkS [])) PH.mt [.string (mkS (Af m0))] (A0x P.length (.string (mkS [48]))) _ a7 _ c7 kV rfl rfl oV hA5 k7 ((Cu [[48]]).replicate _) gV gV ?_;intro v8 m8 hA8;rw[<-hd0]at hA8;obtain⟨b8,c8,rfl⟩:=hA8.ptr hne;rw[hcl]at hA8⊢;exact hjoin (b8,c8) _ _ _ kV cV (l6.trans l7) hA8
 rintro⟨b8,c8⟩ u7 m8 l7 hA8;simp only at hA8;have le7:=le4.trans l7;refine G.l (ι:=Nat) (fun i=>[(0,sV pa P.length pc),(6,sV (some ⟨b8,0,none⟩) (P.length+1) c8),(32,sV a M.length c),(33,iV M.length),(34,iV i)]) (fun _=>[])
  (fun i u' m'=>i<=M.length/\Ae PH.mt m' (.slice (some ⟨b8,0,none⟩) (P.length+1) c8) 33 1 ((cfL m0 P (M.take i)).map nmV)) (fun i=>M.length-i) 0 ⟨oV,hA8⟩ ?_
 rintro J i hJ u9 m9 l9 ⟨hi,hA⟩;have le9:=le7.trans l9;by_cases hlt:i<M.length
 ·refine G.lT (i:Int) (M.length:Int) ?_;obtain⟨x,hMi⟩:∃ x,M[i]?=some x:=⟨_,A0n hlt⟩;have hxm:=A1b hMi;have htk:=E6 hMi;obtain⟨k,hk,hkx⟩:=A19 (ok.sub x hxm);have hkx':P[k]?=some x.1:=by rw[A0n hk,hkx]
  have hnew:x.1∉(M.take i).map (·.1):=by
   intro hm;obtain⟨y,hy,hye⟩:=A0u.1 hm;obtain⟨j,hj,rfl⟩:=A19 hy;rw[A00]at hj;have:=Og hMn (i:=j) (j:=i) (x:=x.1) (by rw[A0v,A0n oV];simp only[A3h];rw[<-hye,List.getElem_take]) (by rw[A0v,hMi];rfl);omega
  obtain⟨ba,oa,rfl,ea⟩:=Ab.at' (hM.mono le9) (j:=i) (e:=A5 x) (by simp[hMi]);refine G.a ba oa M.length c i 3 hlt ?_;refine G.lU (some 3) ba (oa+i*3) (.agg #[.int .i64 x.1.1,.string (mkS x.1.2),.string (mkS (Af x.2))]) ea ?_;refine G.c call192 (Ame (p:=x.1) (hP.mono le9) hkx' (fun j hj e=>by have:=Og hnd e hkx';omega) oV) ?_;rintro v10 u10 l10 rfl;refine G.hT (k:Int) 0 ?_;refine G.i k ?_;refine G.a b8 0 (P.length+1) c8 (k+1) 1 oV ?_;refine G.storeA 1 PH.mt _ b8 (P.length+1) c8 (k+1) (.string (mkS (Af x.2))) kV hA (by rw[A0p,Adi];omega) rfl (by simp[A1e,Be]) ?_;intro m11 hA11;have e11:((cfL m0 P (M.take i)).map nmV).set (k+1) (.string (mkS (Af x.2)))=(cfL m0 P (M.take (i+1))).map nmV:=by
   rw[htk,<-Ajk hkx' hnd hnew,A27];rfl
  rw[e11]at hA11;refine G.i i ?_;exact G.b (hJ (i+1) _ _ _ cV (l9.trans l10) ⟨oV,hA11⟩ oV)
 ·obtain rfl:i=M.length:=oV
  refine G.lF (M.length:Int) (M.length:Int) ?_;rw[A1k]at hA;refine G.give _ _ _ kV hA (fun g=>.inl rfl) ?_;intro u10 l10 hL;have hL2:Fe u10 (.slice (some ⟨b8,0,none⟩) (P.length+1) c8) (((Ak P).map (cfE m0 M)).map Af):=by
   rw[<-Ak5];exact hL
  exact G.r (.tuple #[.slice (some ⟨b8,0,none⟩) (P.length+1) c8,.int .i64 0]) ⟨rfl,_,rfl,hL2⟩
end
section
variable {F:List Ao}{R:List Bk}{T:List (List UInt8×Nat)}{lab:Int}{p:Par}{u:PH}{v:Value}
def Adv (F:List Ao)(p:Par):Prop:=∃ (k:Nat) (f:Ao),p.1=(k:Int)/\F[k]?=some f/\(p.2 = []\/(f.2.1=2/\Gw p.2=true))
theorem Ae4 (hX:F1 u v T R F lab)(ok:Bn u T R F lab)(hp:Adv F p) :
 Fn0 prog 134 [v,An p] u fun r _=>r=.bool true:=by
 obtain⟨xa,xc,xb,xd,xe,xf,rfl,hTL,hRL,hFL⟩:=hX;have hf8:=ok.f2;obtain⟨k,f,h1,hf,h3⟩:=hp;obtain⟨p1,p2⟩:=p;simp only at h1 h3;subst h1;have hk:=(A0s.1 hf).1;obtain⟨bb,ob,rfl,eb⟩:=Ab.at' hFL (j:=k) (e:=B6 f) (by simp[hf]);obtain⟨f1,f2,f3⟩:=f;simp only at h3;refine Fn0.o func134 ?_;refine G.lF (k:Int) 0 ?_;refine G.hF (k:Int) (F.length:Int) ?_;by_cases hc:p2 = []
 ·refine G.q p2 [] hc ?_;exact G.r (.bool true) ⟨rfl,rfl⟩
 ·obtain⟨h2,hw⟩:=h3.resolve_left hc;refine G.w p2 [] hc ?_;refine G.a bb ob F.length xf k 3 hk ?_;refine G.f 144 bb (ob+k*3) 1 1 ?_;refine G.lU none bb (ob+k*3+1) (.int .i64 (f2:Int)) (eb.fld (j:=1) (xs:=#[.int .i64 (f1:Int),.int .i64 (f2:Int),.int .i64 (f3:Int)]) rfl rfl) ?_;refine G.eT (f2:Int) 2 ?_;refine G.c call208 (Ajx hw) ?_;rintro v1 u1 l1 rfl;exact G.r (.bool true) ⟨rfl,rfl⟩
theorem Ams {u m:PH}{b:Nat}(hb:ElP m b 0 v)(hX:F1 u v T R F lab)(ok:Bn u T R F lab)(hp:Adv F p) :
 FnK prog 133 [An p,.pointer (some ⟨b,0,none⟩)] u m fun v _=>v=.bool false:=by
 have hbel:=Ae4 hX ok hp;obtain⟨xa,xc,xb,xd,xe,xf,rfl,hTL,hRL,hFL⟩:=hX;refine FnK.of func133 kV kV ?_;refine G.lM (some 4) b 0 (.agg #[.slice xa T.length xc,.slice xb R.length xd,.slice xe F.length xf,.int .i64 lab]) hb ?_;refine G.c call134 hbel ?_;rintro v1 u1 l1 rfl;exact G.r (.bool false) ⟨rfl,rfl⟩
theorem Agy {u m:PH}{v cap:Value}{P:List Par}{fid:Nat}(h:Ab u v 2 (P.map An))(hl:P.length<=1000000)
 (hcall:∀ args w,(callFunc fid args).run prog w=.ok (.enter fid args) w) (hf:∀ p∈P,∀ u',PH.le u u'->FnK prog fid [An p,cap] u' m fun v _=>v=.bool false) :
 FnK prog 207 [v,.func (.func fid) #[] #[cap]] u m fun v' _=>v'=.int .i64 (-1):=by
 obtain⟨a,c,rfl⟩:=h.opn;rw[A0p]at h⊢;refine FnK.of func207 kV kV ?_;refine G.l (ι:=Nat) (fun i=>[(0,sV a P.length c),(1,.v (.func (.func fid) #[] #[cap])),(7,iV P.length),(8,iV i)]) (fun _=>[])
  (fun i u' m'=>i<=P.length/\m'=m) (fun i=>P.length-i) 0 ⟨oV,rfl⟩ ?_
 rintro J i hJ u1 m1 l1 ⟨hi,rfl⟩;by_cases hlt:i<P.length
 ·refine G.lT (i:Int) (P.length:Int) ?_;have hPi:P[i]?=some P[i]:=A0n hlt;obtain⟨ba,oa,rfl,ea⟩:=Ab.at' (h.mono l1) (j:=i) (e:=An P[i]) (by simp[hPi]);refine G.a ba oa P.length c i 2 oV ?_;refine G.lU (some 2) ba (oa+i*2) (An P[i]) ea ?_;refine G.callK fid [An P[i],cap] kV hcall (hf P[i] (A04 hlt) u1 l1) ?_;rintro v2 u2 l2 rfl;refine G.i i ?_;exact G.b (hJ (i+1) _ _ _ cV (l1.trans l2) ⟨oV,rfl⟩ oV)
 ·obtain rfl:i=P.length:=oV
  refine G.lF (P.length:Int) (P.length:Int) ?_;exact G.r (.int .i64 (-1)) ⟨rfl,rfl⟩
theorem Y8 {u m:PH}{v cap:Value}{P:List Par}{fid:Nat}(h:Ab u v 2 (P.map An))(hl:P.length<=1000000)
 (hcall:∀ args w,(callFunc fid args).run prog w=.ok (.enter fid args) w) (hf:∀ p∈P,∀ u',PH.le u u'->FnK prog fid [An p,cap] u' m fun v _=>v=.bool false) :
 FnK prog 132 [v,.func (.func fid) #[] #[cap]] u m fun v' _=>v'=.bool false:=by
 obtain⟨a,c,rfl⟩:=h.opn;refine FnK.of func132 kV kV ?_;refine G.callK _ _ kV call207 (Agy h hl hcall hf) ?_;rintro v1 u1 l1 rfl;refine G.hF (-1) 0 ?_;exact G.r (.bool false) ⟨rfl,rfl⟩
theorem Agi {v mv:Value}{P:List Par}{m0:Rat}{M:List (Par×Rat)}(hX:F1 u v T R F lab)(ok:Bn u T R F lab)(h:Ar9 u mv m0 M)(hm:Ew P m0 M)(hP:P.length<=10000)(hpar:∀ p∈P,Adv F p) :
 Fn0 prog 61 [v,mv] u fun r _=>r=.bool true:=by
 have hMl:=hm.len;have hck:=fun (u':PH) (l:PH.le u u')=>Abk (hX.mono l) (ok.mono l);have hnum:=fun (u':PH) (l:PH.le u u')=>Qa (h.mono l) oV hm.tx.1 hm.tx.2;have hprm:=fun (u':PH) (l:PH.le u u')=>Sd (h.mono l) oV;obtain⟨xa,xc,xb,xd,xe,xf,rfl,hTL,hRL,hFL⟩:=id hX;obtain⟨a,c,rfl,hM⟩:=h.val;refine Fn0.o func61 ?_;refine G.c call128 (hprm u (PH.le_refl _)) ?_;intro v1 u1 l1 k1;obtain⟨a1,c1,rfl⟩:=Ab.opn k1;refine G.pub 0 31 [.slice xa T.length xc,.slice xb R.length xd,.slice xe F.length xf,.int .i64 lab] kV kV ?_;intro b hb1 hb2;have hcb:ElP (PH.mt.upd b (.cells [Value.slice xa T.length xc,.slice xb R.length xd,.slice xe F.length xf,.int .i64 lab].toArray 31 (0,0))) b 0 (.agg #[.slice xa T.length xc,.slice xb R.length xd,.slice xe F.length xf,.int .i64 lab]):=Aa3 (xs:=[.slice xa T.length xc,.slice xb R.length xd,.slice xe F.length xf,.int .i64 lab]) (Ac _ _ _) rfl;refine G.lM (some 4) b 0 (.agg #[.slice xa T.length xc,.slice xb R.length xd,.slice xe F.length xf,.int .i64 lab]) hcb ?_;refine G.c call129 (hck u1 l1) ?_;rintro v2 u2 l2 rfl;refine G.eT' 0 0 rfl ?_;refine G.c call130 (hnum u2 (l1.trans l2)) ?_;rintro v3 u3 l3 rfl;refine G.c call131 (Wq ((k1.mono l2).mono l3) hm.srt (by rw[A0p];omega)) ?_;rintro v4 u4 l4 rfl;have le4:=((l1.trans l2).trans l3).trans l4;refine G.callK _ _ kV call132 (Y8 (cap:=.pointer (some ⟨b,0,none⟩)) (((k1.mono l2).mono l3).mono l4) (by rw[A0p];omega) call133 fun p hp u' l'=>Ams hcb (hX.mono (le4.trans l')) (ok.mono (le4.trans l')) (hpar p (by
  obtain⟨x,hx,rfl⟩:=A0u.1 hp;exact hm.sub x hx))) ?_
 rintro v5 u5 l5 rfl;refine G.drop PH.mt kV (PH.mt_le _) ?_;exact G.r (.bool true) ⟨rfl,rfl⟩
end
section
variable {q:Rat}
theorem Aqa {q n d j:Rat}(h2:q=n*j)(hi:d*j=1):q*d=n:=by rw[h2];grind
theorem Dn.smr (h:SmR q):Dn 1 108 q:=by
 obtain⟨k,hk⟩:=h.den;refine⟨q.num*(k:Int),?_,?_⟩
 ·have h1:q*(q.den:Rat)=(q.num:Rat):=by
   have h2:q=(q.num:Rat)/(((q.den:Int)):Rat):=by rw[<-A4h,A66]
   have hi:=A8u _ (Pr q.den_pos);rw[A2j,A7l]at h2;exact Aqa h2 hi
  show q*((12^1:Nat):Rat)=_;rw[show (12^1:Nat)=12 from rfl,hk,A6b,A23,A2j,<-h1];grind
 ·rw[A30,A1z];have h1:=h.num;have h2:k<=12:=by
   have:=h.le;have:0<q.den:=q.den_pos;rcases A1p k with h0|h0
   ·omega
   ·exact A5s oV ⟨q.den,by rw[A10];exact hk⟩
  exact A3j h1 h2
theorem W4:Tx 0:=(show SmR 0 from⟨jV,jV⟩).tx
theorem Rw {P:List Par}{m0:Rat}{M:List (Par×Rat)}(h:Ew P m0 M):∀ e,Tx (cfE m0 M e)
 |none=>h.c
 |some p=>by
  show Tx (Bi p M);by_cases hp:p∈M.map (·.1)
  ·obtain⟨x,hx,rfl⟩:=A0u.1 hp;have e:Bi x.1 M=x.2:=F9 (h.srt.nodup Dp) hx;rw[e];exact h.t x hx
  ·rw[Kc hp];exact W4
end
section
variable {F:List Ao}{lab:Int}{p:Par}
theorem Ad0 {p:Par}:∀ (L:List LF) (C:CF),(Gr C L).s p≠0->C.s p≠0\/∃ q,some (some (p,q))∈L
 |[],C,h=>.inl h
 |x::L,C,h=>by
  rcases Ad0 L (C.mul x.cf) h with h1|⟨q,hq⟩
  ·rcases Ez (a:=x.cf.s p*C.c) (b:=C.s p*x.cf.c) h1 with h2|h2
   ·right;have h3:=(B8 h2).1
    match x,h3 with
    |none,h3=>exact absurd rfl h3
    |some none,h3=>exact absurd rfl h3
    |some (some (p',q)),h3 =>
     have h4:(if p=p' then q else 0)≠0:=h3;by_cases e:p=p'
     ·subst e;exact⟨q,A3r ..⟩
     ·rw[if_neg e]at h4;exact absurd rfl h4
   ·exact .inl (B8 h2).1
  ·exact .inr ⟨q,A1w _ hq⟩
theorem Acc {ss:List (List UInt8)}(h:(cfT F lab ss).s p≠0):Aar F lab p/\∃ (a:Nat) (q:Rat),(Em F lab ss)[a]?=some (some (some (p,q)))/\∀ (i:Nat) (f:Ao),p.1=(i:Int)->F[i]?=some f->f.2.1=2->q=1:=by
 rcases Ad0 _ _ h with h|⟨q,hq⟩
 ·exact absurd rfl h
 obtain⟨a,ha,hae⟩:=A19 hq;have hla:a<ss.length:=by rw[F3]at ha;exact ha
 have e:=Gq (F:=F) (lab:=lab) (w:=ss[a]) (A0n hla);have e2:Fg F lab a ss[a]=some (some (p,q)):=by
  rw[A0n ha,hae]at e;exact (A2d e).symm
 have e3:(Em F lab ss)[a]?=some (some (some (p,q))):=by rw[e,e2]
 generalize ss[a]=w at e2;by_cases hl:(a:Int)=lab
 ·have e4:Fg F lab a w=O7 w:=by unfold Fg;rw[if_pos hl]
  rw[e4]at e2;unfold O7 at e2;split at e2
  ·cases e2
  ·simp only[A0t,A1r]at e2;obtain⟨rfl,_⟩:=e2;exact⟨.inl ⟨rfl,oV,rfl⟩,a,q,e3,fun i f h1=>by simp only at h1;omega⟩
 ·rcases Ga (F:=F) (w:=w) hl with h1|⟨i,f,hf,hfa,h1⟩
  ·rw[h1]at e2;cases e2
  ·rw[h1]at e2;unfold Jk at e2;by_cases h2:f.2.1=2
   ·rw[if_pos h2]at e2;simp only[A0t,A1r]at e2;obtain⟨rfl,rfl⟩:=e2;exact⟨.inr ⟨i,f,rfl,hf,.inl h2⟩,a,_,e3,fun _ _ _ _ _=>rfl⟩
   ·rw[if_neg h2]at e2;split at e2
    ·split at e2<;>cases e2
    ·simp only[A0t,A1r]at e2;obtain⟨rfl,_⟩:=e2;refine⟨.inr ⟨i,f,rfl,hf,.inr rfl⟩,a,q,e3,fun j g h3 h4 h5=>?_⟩;simp only at h3;obtain rfl:i=j:=oV
     rw[hf]at h4;cases h4;exact absurd h5 h2
theorem Adn :∀ {L:List E7},(C8 F lab L).s p≠0->∃ y∈L,(cfT F lab y.1).s p≠0:=by
 intro L;induction L using Iv with
 |h0=>exact fun h=>absurd rfl h
 |h1 L y ih =>
  intro h;rw[F5]at h;rcases Ez (a:=(C8 F lab L).s p) (b:=(cfT F lab y.1).s p*(y.2.1:Rat)) h with h1|h1
  ·obtain⟨z,hz,h2⟩:=ih h1;exact⟨z,A24 _ hz,h2⟩
  ·exact⟨y,mV,(B8 h1).1⟩
end
section
variable {C:CF}{P:List Par}{b:Option Par->Rat}
theorem Aau (P:List Par)(C:CF)(h:∀ e,b e=0):Bm b P C=0:=by
 unfold Bm;exact Bv fun e _=>Bv fun f _=>by rw[h e];grind
theorem Ans:Yg (CF.num 0):=⟨rfl,fun _=>rfl,fun _=>rfl⟩
theorem Ajl:SmR 0:=⟨jV,jV⟩
def Atc (m0:Rat)(M:List (Par×Rat))(V:List (Par×Rat)):Rat:=m0+Au (fun t=>t.2*Bi t.1 M) V
theorem QOK.biasS (h:QOK b C)(hP:P.length<=60):Sz (Kf b P C) 1000000 :=
 (Ie (show Sz (C.s Aq) 1000 from h.r none) (h.bs (Ak P) (by rw[Bo];omega))).mono oV
theorem QOK.sqS (h:QOK b C)(hP:P.length<=60):Sz (sqC b P C) 30000000 :=
 (Ie (Ly (h.nm hP) h.l) (Agv (h.rs (Ak P) (by rw[Bo];omega)))).mono oV
end
section
variable {f:Nat->Rat}{n:Nat}
def Dm (n:Nat)(f:Nat->Rat):Rat:=Au f (A1q n)
theorem F0 (n:Nat)(f:Nat->Rat):Dm (n+1) f=Dm n f+f n:=by unfold Dm;rw[List.range_succ,Iu]
theorem Pb (f:Nat->Rat):Dm 0 f=0:=rfl
theorem Er {f g:Nat->Rat}(h:∀ i,i<n->f i=g i):Dm n f=Dm n g:=Bb fun i hi=>h i (List.mem_range.1 hi)
theorem Ri (n:Nat)(f g:Nat->Rat):Dm n (fun i=>f i-g i)=Dm n f-Dm n g:=by
 induction n with
 |zero=>show (0:Rat)=0-0;decide +kernel
 |succ n ih=>rw[F0,F0,F0,ih];grind
theorem Nr (k:Rat)(n:Nat)(f:Nat->Rat):Dm n (fun i=>k*f i)=k*Dm n f:=Dr k _
theorem Ai5:∀ (B:Nat) (f:Nat->Nat),(∀ k,k<=B->f k<B)->∃ i j,i<j/\j<=B/\f i=f j
 |0,f,h=>absurd (h 0 (A0w _)) oV
 |B+1,f,h=>by
  by_cases he:∃ i,i<=B/\f i=f (B+1)
  ·obtain⟨i,hi,e⟩:=he;exact⟨i,B+1,oV,A0w _,e⟩
  ·have h1:∀ k,k<=B->f k≠f (B+1):=fun k hk e=>he ⟨k,hk,e⟩;have ht:=h (B+1) (A0w _);obtain⟨i,j,hij,hj,e⟩:=Ai5 B (fun k=>if f k<f (B+1) then f k else f k-1) fun k hk=>by
    have a1:=h k oV;have a2:=h1 k hk;split<;>omega
   refine⟨i,j,hij,oV,?_⟩;have a2:=h1 i oV;have a4:=h1 j hj;split at e<;>split at e<;>omega
def Qw (m:Nat)(f:Nat->Nat):Nat->Nat
 |0=>0
 |n+1=>Qw m f n*m+f n
theorem Ad9 {m:Nat}{f:Nat->Nat}:∀ n,(∀ i,i<n->f i<m)->Qw m f n<m^n
 |0,_=>by simp[Qw]
 |n+1,h=>by
  have h1:=Ad9 n fun i hi=>h i oV;have h2:=h n oV;have h3:(Qw m f n+1)*m<=m^n*m:=A12 m h1;rw[A1o]at h3;show Qw m f n*m+f n<m^n*m;omega
theorem Aah {m:Nat}{f g:Nat->Nat}:∀ n,(∀ i,i<n->f i<m)->(∀ i,i<n->g i<m)->Qw m f n=Qw m g n->∀ i,i<n->f i=g i
 |0,_,_,_,i,hi=>oV
 |n+1,hf,hg,e,i,hi=>by
  have e':Qw m f n*m+f n=Qw m g n*m+g n:=e;have a:=hf n oV;have b:=hg n oV;have q:Qw m f n=Qw m g n:=by
   have h1:=congrArg (· / m) e';simpa[A10 _ m,Nat.mul_add_div (show 0<m by omega),A4a a,A4a b] using h1
  rcases A11 i n with h|h
  ·exact Aah n (fun i hi=>hf i oV) (fun i hi=>hg i oV) q i h
  ·rw[q]at e';rw[show i=n by omega];omega
theorem Aip {M:Nat}(h:∀ i,i<n->-(M:Rat)<=f i/\f i<=M):-((n*M:Nat):Rat)<=Dm n f/\Dm n f<=((n*M:Nat):Rat):=by
 induction n with
 |zero=>rw[Pb,Nat.zero_mul];constructor<;>decide +kernel
 |succ n ih =>
  have h1:=ih fun i hi=>h i oV;have h2:=h n oV;have e:(((n+1)*M:Nat):Rat)=((n*M:Nat):Rat)+(M:Rat):=by rw[A1o,A3d,A60]
  rw[F0,e];constructor<;>grind
def frc (q:Rat):Rat:=q-(q.floor:Rat)
theorem Aop (q:Rat):0<=frc q/\frc q<=1:=by
 have h1:=Rat.floor_le q;have h2:=Rat.lt_floor_add_one q;unfold frc;constructor<;>grind
theorem Akr {n M:Nat}{A:Nat->Nat->Int}{x:Nat->Rat}(hA:∀ i j,i<n->j<n->(A i j).natAbs<=M)(hx:∀ i,i<n->∃ z:Int,Dm n (fun j=>(A i j:Rat)*x j)=z)
 (hinj:∀ h:Rat->Rat,(∀ i,i<n->Dm n (fun j=>(A i j:Rat)*h (x j))=0)->∀ j,j<n->h (x j)=0) :
 ∃ D:Nat,0<D/\D<=(2*(n*M)+1)^n/\∀ j,j<n->∃ k:Int,x j*(D:Rat)=k:=by
 have him:∀ (k:Nat) i,i<n->∃ z:Int,Dm n (fun j=>(A i j:Rat)*frc ((k:Rat)*x j))=z:=by
  intro k i hi;obtain⟨z,hz⟩:=hx i hi;have:∀ m,∃ w:Int,Dm m (fun j=>(A i j:Rat)*(((k:Rat)*x j).floor:Rat))=w:=by
   intro m;induction m with
   |zero=>exact⟨0,rfl⟩
   |succ m ih =>
    obtain⟨w,hw⟩:=ih;exact⟨w+A i m*((k:Rat)*x m).floor,by rw[F0,hw,A48,A23]⟩
  obtain⟨w,hw⟩:=this n;refine⟨k*z-w,?_⟩;have e:(fun j=>(A i j:Rat)*frc ((k:Rat)*x j))=fun j=>(k:Rat)*((A i j:Rat)*x j)-(A i j:Rat)*(((k:Rat)*x j).floor:Rat):=by
   funext j;unfold frc;grind
  rw[e,Ri,Nr,hz,hw,Bbw,A23,A2j]
 have hch:∀ k i,∃ z:Int,i<n->Dm n (fun j=>(A i j:Rat)*frc ((k:Nat)*x j))=z:=fun k i=>by
  by_cases hi:i<n
  ·obtain⟨z,hz⟩:=him k i hi;exact⟨z,fun _=>hz⟩
  ·exact⟨0,fun h=>absurd h hi⟩
 have hbd:∀ (k:Nat) i (z:Int),i<n->Dm n (fun j=>(A i j:Rat)*frc ((k:Rat)*x j))=z->-((n*M:Nat):Int)<=z/\z<=((n*M:Nat):Int):=by
  intro k i z hi hz;have:=Aip (n:=n) (f:=fun j=>(A i j:Rat)*frc ((k:Rat)*x j)) (M:=M) fun j hj=>by
   have h1:=Aop ((k:Rat)*x j);generalize frc ((k:Rat)*x j)=f at h1;have h2:=hA i j hi hj;have h3:(A i j:Rat)<=((M:Int):Rat):=A3t.2 oV;have h4:((-(M:Int):Int):Rat)<=(A i j:Rat):=A3t.2 oV;rw[A6x]at h4;rw[A2j]at h3 h4;generalize (A i j:Rat)=a at h3 h4;have hM:(0:Rat)<=(M:Rat):=by grind
   generalize (M:Rat)=m at h3 h4 hM;constructor
   ·show -m<=a*f;have p1:0<=(a+m)*f:=A2f (by grind) h1.1;have p2:0<=m*(1-f):=A2f hM (by grind);grind
   ·show a*f<=m;have p1:0<=(m-a)*f:=A2f (by grind) h1.1;have p2:0<=m*(1-f):=A2f hM (by grind);grind
  rw[hz,<-A2j,<-A6x]at this;exact⟨A3t.1 this.1,A3t.1 this.2⟩
 have hz:=fun k i=>(hch k i).choose_spec;generalize hzz:(fun (k i:Nat)=>(hch k i).choose)=Z at hz;have hz:∀ k i,i<n->Dm n (fun j=>(A i j:Rat)*frc ((k:Nat)*x j))=Z k i:=fun k i hi=>by rw[<-hzz];exact (hch k i).choose_spec hi
 have hd:∀ k i,i<n->(Z k i+((n*M:Nat):Int)).toNat<2*(n*M)+1:=fun k i hi=>by
  have:=hbd k i _ hi (hz k i hi);omega
 obtain⟨k,l,hkl,hl,e⟩:=Ai5 ((2*(n*M)+1)^n) (fun k=>Qw (2*(n*M)+1) (fun i=>(Z k i+((n*M:Nat):Int)).toNat) n) fun k _=>Ad9 n (hd k);have he:=Aah n (hd k) (hd l) e;have hq:=hinj (fun t=>frc ((l:Rat)*t)-frc ((k:Rat)*t)) fun i hi=>by
  have a:=hbd k i _ hi (hz k i hi);have b:=hbd l i _ hi (hz l i hi);have h1:Z k i=Z l i:=by have:=he i hi;omega
  have e:(fun j=>(A i j:Rat)*(frc ((l:Rat)*x j)-frc ((k:Rat)*x j)))=fun j=>(A i j:Rat)*frc ((l:Rat)*x j)-(A i j:Rat)*frc ((k:Rat)*x j):=by funext j;grind
  rw[e,Ri,hz l i hi,hz k i hi,h1];grind
 refine⟨l-k,oV,oV,fun j hj=>⟨((l:Rat)*x j).floor-((k:Rat)*x j).floor,?_⟩⟩;have h:=hq j hj;unfold frc at h;have c:((l-k:Nat):Rat)=(l:Rat)-(k:Rat):=by
  have:(l:Rat)=((l-k:Nat):Rat)+(k:Rat):=by rw[<-A60];congr 1;omega
  grind
 rw[c,Bbw];grind
end
section
theorem Uv {α β:Type}(f:α->β->Rat):∀ (l:List α) (k:List β),Au (fun a=>Au (fun b=>f a b) k) l=Au (fun b=>Au (fun a=>f a b) l) k
 |[],k=>(Bv fun _ _=>rfl).symm
 |a::l,k=>by
  show Au (fun b=>f a b) k+Au (fun a=>Au (fun b=>f a b) k) l=Au (fun b=>f a b+Au (fun a=>f a b) l) k;rw[Uv f l k,D1]
theorem V6 {α:Type}{f:α->Rat}:∀ {l:List α},(∀ a∈l,0<=f a)->0<=Au f l
 |[],_=>Bbd
 |a::l,h=>by
  have h1:=h a (A3r ..);have h2:=V6 fun x hx=>h x (A1w _ hx);show 0<=f a+Au f l;grind
theorem Z5 {α:Type}{f:α->Rat}:∀ {l:List α},(∀ a∈l,0<=f a)->Au f l=0->∀ a∈l,f a=0
 |[],_,_,a,ha=>by cases ha
 |x::l,h,e,a,ha=>by
  have h1:=h x (A3r ..);have h2:=V6 fun y hy=>h y (A1w _ hy);have e':f x+Au f l=0:=e;rcases A02.1 ha with rfl|ha
  ·grind
  ·exact Z5 (fun y hy=>h y (A1w _ hy)) (by grind) a ha
theorem Abo (C:CF)(e f:Option Par):As C e f=As C f e:=by
 cases e<;>cases f<;>simp only[As]<;>rw[Ta]
section
variable {P:List Par} {C:CF} {b d z:Option Par->Rat} {k:Rat}
def Kp (k:Rat)(b:Option Par->Rat):Option Par->Rat
 |none=>0
 |some p=>k*b (some p)
def Fv (P:List Par)(C:CF)(k:Rat)(b:Option Par->Rat):Prop:=∀ e∈Ak P,Au (fun f=>As C e f*b f) (Ak P)+Kp k b e=Ay C e
def G9 (P:List Par)(b:Option Par->Rat):Rat:=Au (fun p=>b (some p)*b (some p)) P
def Mz (z b:Option Par->Rat)(P:List Par)(C:CF):Rat:=Au (fun e=>z e*Au (fun f=>As C e f*b f) (Ak P)) (Ak P)
theorem I5 (b:Option Par->Rat):Bm b P C=Mz b b P C:=by
 unfold Bm Mz;exact Bb fun e _=>by rw[<-Dr];exact Bb fun f _=>by grind
theorem Sv (z b:Option Par->Rat):Mz z b P C=Mz b z P C:=by
 unfold Mz;rw[Bb (g:=fun e=>Au (fun f=>z e*(As C e f*b f)) (Ak P)) fun e _=>(Dr _ _).symm,Uv];exact Bb fun f _=>by rw[<-Dr];exact Bb fun e _=>by rw[Abo C e f];grind
theorem Xm (z w b:Option Par->Rat):Mz (fun e=>z e+w e) b P C=Mz z b P C+Mz w b P C:=by
 unfold Mz;rw[<-D1];exact Bb fun e _=>by grind
theorem Ahc (z b:Option Par->Rat):Bm (fun e=>z e+b e) P C=Bm z P C+2*Mz z b P C+Bm b P C:=by
 rw[I5,I5,I5,Xm,Sv z,Sv b,Xm,Xm,Sv b z];grind
theorem Gf (f:Option Par->Rat):Au f (Ak P)=f none+Au (fun p=>f (some p)) P:=by
 unfold Ak;show f none+_=_;rw[On]
theorem Fv.bil (h:Fv P C k b)(z:Option Par->Rat):Mz z b P C=Au (fun e=>z e*Ay C e) (Ak P)-k*Au (fun p=>z (some p)*b (some p)) P:=by
 have:Mz z b P C=Au (fun e=>z e*Ay C e + -(z e*Kp k b e)) (Ak P):=Bb fun e he=>by rw[<-h e he];grind
 rw[this,D1];have e2:Au (fun e=>-(z e*Kp k b e)) (Ak P) = -(k*Au (fun p=>z (some p)*b (some p)) P):=by
  rw[Gf,<-Dr];have:Au (fun p=>-(z (some p)*Kp k b (some p))) P=Au (fun p=>(-1)*(k*(z (some p)*b (some p)))) P:=Bb fun p _=>by unfold Kp;grind
  rw[this,Dr];unfold Kp;grind
 rw[e2];grind
theorem Fv.loss (h:Fv P C k b)(z:Option Par->Rat):sqC (fun e=>z e+b e) P C+k*G9 P (fun e=>z e+b e)=sqC b P C+k*G9 P b+(Bm z P C+k*G9 P z):=by
 have h1:=h.bil z;have h2:Au (fun e=>(z e+b e)*Ay C e) (Ak P)=Au (fun e=>z e*Ay C e) (Ak P)+Au (fun e=>b e*Ay C e) (Ak P):=by
  rw[<-D1];exact Bb fun e _=>by grind
 have h3:G9 P (fun e=>z e+b e)=G9 P z+(Au (fun p=>z (some p)*b (some p)) P*2+G9 P b):=by
  unfold G9;rw[<-Ej,<-D1,<-D1];exact Bb fun p _=>by grind
 unfold sqC;rw[Ahc,h2,h3,h1];grind
theorem Rn (P:List Par)(b:Option Par->Rat):0<=G9 P b:=V6 fun p _=>by
 rcases A8c (a:=0) (b:=b (some p)) with h|h
 ·exact A2f h h
 ·have:=A2f (a:=-b (some p)) (b:=-b (some p)) (by grind) (by grind);grind
theorem Fv.least (h:Fv P C k b)(hk:0<=k)(hp:∀ z,0<=Bm z P C)(d:Option Par->Rat):sqC b P C+k*G9 P b<=sqC d P C+k*G9 P d:=by
 have h1:=h.loss fun e=>d e-b e;have e:(fun e=>d e-b e+b e)=d:=funext fun e=>by grind
 rw[e]at h1;have h2:=hp fun e=>d e-b e;have h3:=A2f hk (Rn P fun e=>d e-b e);grind
theorem Aji (hk:0<k)(hc:0<C.c)(hp:∀ z,0<=Bm z P C)(hz:∀ e∈Ak P,Au (fun f=>As C e f*z f) (Ak P)+Kp k z e=0):∀ e∈Ak P,z e=0:=by
 have h1:Mz z z P C+k*G9 P z=0:=by
  have:Mz z z P C=Au (fun e=>(-1)*(z e*Kp k z e)) (Ak P):=Bb fun e he=>by have:=hz e he;grind
  rw[this,Dr,Gf];have e2:Au (fun p=>z (some p)*Kp k z (some p)) P=k*G9 P z:=by unfold G9;rw[<-Dr];exact Bb fun p _=>by unfold Kp;grind
  rw[e2];unfold Kp;grind
 rw[<-I5]at h1;have h2:=hp z;have h3:=Rn P z;have h4:=A2f (Ba0 hk) h3;have h5:G9 P z=0:=by
  have:k*G9 P z=0:=by grind
  rcases A6c.1 this with e|e
  ·rw[e]at hk;exact absurd hk jV
  ·exact e
 have h6:∀ p∈P,z (some p)=0:=fun p hp=>by
  have:=Z5 (fun q _=>by
   rcases A8c (a:=0) (b:=z (some q)) with h|h
   ·exact A2f h h
   ·have:=A2f (a:=-z (some q)) (b:=-z (some q)) (by grind) (by grind);grind) h5 p hp
  rcases A6c.1 this with e|e<;>exact e
 have h7:z none=0:=by
  have:=hz none (by unfold Ak;simp);rw[Gf,Bv fun p hp=>by rw[h6 p hp,Bcn]]at this;have e:C.c*z none=0:=by
   have e1:As C none none=C.c:=rfl;rw[e1]at this;unfold Kp at this;grind
  rcases A6c.1 e with e|e
  ·rw[e]at hc;exact absurd hc jV
  ·exact e
 intro e he;unfold Ak at he;rcases A02.1 he with rfl|he
 ·exact h7
 ·obtain⟨p,hp,rfl⟩:=A0u.1 he;exact h6 p hp
end
theorem Ahu {T:List (List UInt8×Nat)}{F:List Ao}{lab:Int}(hF:Dk T F lab)(h1:-1<=lab)(h2:∀ l:Nat,lab=(l:Int)->l<T.length)(z:Option Par->Rat)(P:List Par):∀ {L:List E7},(∀ y∈L,Cr T y.1)->0<=Bm z P (C8 F lab L):=by
 intro L;induction L using Iv with
 |h0=>exact fun _=>by show 0<=Bm z P (CF.num 0);rw[Ans.norm z P];exact Bbd
 |h1 L y ih =>
  intro h;have i1:=ih fun z hz=>h z (A24 _ hz);have hy:=h y mV;have hlen:=hy.len;rw[F5,Uu];rcases L9 hF hy h1 (fun l hl=>by have:=h2 l hl;omega) with ⟨_,o⟩|⟨_,o⟩
  ·rw[o.norm];generalize Ua z P (cfT F lab y.1).s=v;have hw:(0:Rat)<=(y.2.1:Rat):=by
    have:((0:Nat):Rat)<=(y.2.1:Rat):=A5k.2 (A1m _);exact this
   have hv:0<=v*v:=by
    rcases A8c (a:=0) (b:=v) with h|h
    ·exact A2f h h
    ·have:=A2f (a:=-v) (b:=-v) (by grind) (by grind);grind
   have:=A2f hv hw;grind
  ·rw[o.norm];grind
end
section
variable {F:List Ao}{n:Nat}
section
variable {P:Program} [Ba P] {fn:Func} {Post:B0} {st:List KI×S} {u m:PH}
theorem G.storeE {t:TypeId}(sz i:Nat)(m0:PH)(es:List Value)(g n c j:Nat)(e e' x:Value)(h:Al P (adv P st)=.store (some 1) (.pointer (some ⟨g,0+j*sz+i,none⟩)) x)(ha:Ae m0 m (.slice (some ⟨g,0,none⟩) n c) t sz es)(hj:es[j]?=some e)(hi:i<sz)(he:e'.cells.toList=e.cells.toList.set i x)(hx:x.cells = #[x])(hxo:Be x=true)
 (k:∀ m',Ae m0 m' (.slice (some ⟨g,0,none⟩) n c) t sz (es.set j e')->G P fn Post (nx (adv P st) undef) u m'):G P fn Post st u m:=by
 obtain⟨hok,hh⟩:=ha;obtain⟨hjl,rfl⟩:=A0s.1 hj;rcases hh with ⟨hn,_,_⟩|⟨g',cap,rest,h0,rfl,hv,hc,hl,hr⟩
 ·cases hn
 ·simp only[A09,A0t,Addr.mk.injEq]at hv;obtain⟨⟨rfl,_⟩,rfl,rfl⟩:=hv;have hsz:=(hok _ (A04 hjl)).1;have hco:=(hok _ (A04 hjl)).2;have hfl:=A2 hok;have hle:j*sz+sz<=es.length*sz:=by
   have:=A12 sz hjl;rw[Nat.succ_mul]at this;exact this
  have hes':e'.cells.size=sz:=by
   rw[<-A29,he,A3u,A29];exact hsz
  have hok':A3 sz (es.set j e'):=hok.set ⟨hes',fun y hy=>by
   rw[he]at hy;rcases List.mem_or_eq_of_mem_set hy with hy|rfl
   ·exact hco y hy
   ·exact hxo⟩
  refine G.storeM 1 g (0+j*sz+i) t (Az es++rest) x h (Ac _ _ _) (fun y hy=>?_) (by rw[A0z,hfl];omega) (by rw[hx];rfl) (by rw[hx];simp[hxo]) ?_
  ·rcases A01.1 hy with hy|hy
   ·exact Ep hok y hy
   ·exact hr y hy
  ·rw[Dh];have e1:(Az es++rest).take (0+j*sz+i)++x.cells.toList++(Az es++rest).drop (0+j*sz+i+1)=Az (es.set j e')++rest:=by
    have h1:Az (es.set j e')=(Az es).set (j*sz+i) x:=by
     have q1:=Nv (e:=e') hok hes' hjl;have q2:=Nv (e:=es[j]) hok hsz hjl;rw[List.set_getElem_self]at q2;rw[q1,he]
     conv=>rhs;rw[q2]
     have hlt:((Az es).take (j*sz)).length=j*sz:=by rw[A00,hfl];omega
     have hle2:es[j].cells.toList.length=sz:=by simpa using hsz
     rw[A1j,A1j,A4k _ _ oV,hlt,Nat.add_sub_cancel_left,A78 _ _ oV]
    have h2:(Az es++rest).set (j*sz+i) x=(Az es).set (j*sz+i) x++rest:=A78 _ _ oV;rw[h1,<-h2,List.set_eq_take_append_cons_drop,if_pos (by rw[A0z];omega),hx,A2b];simp
   rw[e1];refine k _ ⟨hok',.inr ⟨g,c,rest,h0,rfl,by rw[A3u],by rw[A3u];exact hc,?_,hr⟩⟩;rw[A0z,A2 hok',A3u,<-hfl,<-A0z];exact hl
end
theorem Aps {u:PH}{v:Value}{a:Nat}(h:Ab u v 3 (F.map B6))(hl:F.length<=1000000):Fn0 prog 101 [v,.int .i64 (a:Int)] u fun r _=>r=.bool (F.any fun f=>f.1==a):=by
 obtain⟨xa,xc,rfl⟩:=h.opn;rw[A0p]at h⊢;refine Fn0.o func101 ?_;refine G.l (ι:=Nat) (fun i=>[(1,iV a),(7,sV xa F.length xc),(8,iV F.length),(9,iV i)]) (fun _=>[])
  (fun i u' m'=>i<=F.length/\(∀ j f,j<i->F[j]?=some f->f.1≠a)/\m'=PH.mt) (fun i=>F.length-i) 0 ⟨oV,fun j f hj=>oV,rfl⟩ ?_
 rintro J i hJ u2 m2 l2 ⟨hi,h0,rfl⟩;by_cases hlt:i<F.length
 ·refine G.lT (i:Int) (F.length:Int) ?_;obtain⟨f,hFi⟩:∃ f,F[i]?=some f:=⟨_,A0n hlt⟩;obtain⟨fb,fo,rfl,ef⟩:=Ab.at' (h.mono l2) (j:=i) (e:=B6 f) (by simp[hFi]);obtain⟨p1,p2,p3⟩:=f;refine G.a fb fo F.length xc i 3 hlt ?_;refine G.lU (some 3) fb (fo+i*3) (.agg #[.int .i64 (p1:Int),.int .i64 (p2:Int),.int .i64 (p3:Int)]) ef ?_;by_cases he:p1=a
  ·refine G.eT (p1:Int) (a:Int) ?_;exact G.r (.bool true) ⟨rfl,by
    rw[List.any_eq_true.2 ⟨_,A1b hFi,by simpa using he⟩]⟩
  ·refine G.eF (p1:Int) (a:Int) ?_;refine G.i i ?_;exact G.b (hJ (i+1) _ _ _ cV l2 ⟨oV,fun j g hj hg=>by
    rcases (by omega:j<i\/j=i) with e|rfl
    ·exact h0 j g e hg
    ·rw[hFi]at hg;cases hg;exact he,rfl⟩ oV)
 ·obtain rfl:i=F.length:=oV
  refine G.lF (F.length:Int) (F.length:Int) ?_;exact G.r (.bool false) ⟨rfl,by
   rw[A7i.2 fun f hf=>by
    obtain⟨j,hj,rfl⟩:=A19 hf;simpa using h0 j _ hj (A0n hj)]⟩
def nmB (j:Nat):List UInt8:=[98]++[Uj j]
theorem Ajn {j:Nat}(h:j<26):Gw (nmB j)=true:=by
 have h2:∀ n:Fin 26,Gw (nmB n.val)=true:=jV
 exact h2 ⟨j,h⟩
theorem Alq {l:List Nat}(h1:∀ a∈l,a<n)(h2:∀ (k:Nat) x y,l[k]?=some x->l[k+1]?=some y->x<y):l.length<=n:=by
 have h:∀ k (hk:k<l.length),k<=l[k]:=by
  intro k;induction k with
  |zero=>intro _;omega
  |succ k ih =>
   intro hk;have:=ih oV;have:=h2 k _ _ (A0n oV) (A0n hk);omega
 rcases A1p l.length with e|e
 ·omega
 ·have h3:=h (l.length-1) oV;have h4:=h1 _ (A04 (show l.length-1<l.length by omega));omega
theorem Ahn {u u':PH}{R0:List Bk}{r:Bk}{a':Option Addr}{c':Nat}(h:Mh u n (R0++[r]))(hl:PH.le u u')(hn:n<=900)(hL:Ab u' (.slice a' (r.2.1++[n]).length c') 1 (Ag (r.2.1++[n]))):Mh u' (n+1) (R0++[(r.1,r.2.1++[n],(a',c'))]):=by
 have hr:r∈R0++[r]:=mV
 have h0:∀ x∈R0,x∈R0++[r]:=fun x hx=>A24 _ hx;have split:∀ x,x∈R0++[(r.1,r.2.1++[n],(a',c'))]->x∈R0\/x=(r.1,r.2.1++[n],(a',c')):=fun x hx=>by
  rcases A01.1 hx with hx|hx
  ·exact .inl hx
  ·exact .inr (by simpa using hx)
 refine⟨?_,?_,?_,?_,?_,?_,?_⟩
 ·have:=h.names;rw[A07]at this⊢;exact this
 ·intro x hx;rcases split x hx with hx|rfl
  ·exact h.ne x (h0 x hx)
  ·simp
 ·intro x hx a ha;rcases split x hx with hx|rfl
  ·have:=h.lt x (h0 x hx) a ha;omega
  ·rcases A01.1 ha with ha|ha
   ·have:=h.lt r hr a ha;omega
   ·simp at ha;omega
 ·intro x hx;rcases split x hx with hx|rfl
  ·exact h.len x (h0 x hx)
  ·have:=Alq (h.lt r hr) (h.asc r hr);simp only[A0z,List.length_singleton];omega
 ·intro x hx k a b ha hb;rcases split x hx with hx|rfl
  ·exact h.asc x (h0 x hx) k a b ha hb
  ·simp only at ha hb;rcases A11 (k+1) r.2.1.length with hk|hk
   ·rw[A1d oV]at ha hb;exact h.asc r hr k a b ha hb
   ·rw[A1s hk]at hb;have hk0:k+1-r.2.1.length=0:=by
     obtain⟨q,_⟩:=A0s.1 hb;simp at q;omega
    rw[hk0]at hb;simp at hb;subst hb;rw[A1d oV]at ha;exact h.lt r hr a (A1b ha)
 ·intro a ha;by_cases e:a=n
  ·subst e;exact⟨_,by simp;right;rfl,mV⟩
  ·obtain⟨x,hx,hax⟩:=h.all a oV;rcases A01.1 hx with hx|hx
   ·exact⟨x,A24 _ hx,hax⟩
   ·simp at hx;subst hx;exact⟨_,by simp;right;rfl,A24 _ hax⟩
 ·intro x hx;rcases split x hx with hx|rfl
  ·exact (h.at' x (h0 x hx)).mono hl
  ·exact hL
theorem Ag5 {u u':PH}{T:List (List UInt8×Nat)}{R R':List Bk}{lab:Int}(ok:Bn u T R F lab)(hT:T.length<=11)(hn:∀ a∈T,a.1≠nmB T.length)(hR:Mh u' (T.length+1) R')(hRl:R'.length=R.length):Bn u' (T++[(nmB T.length,2)]) R' F lab:=by
 have hw:=Ajn (j:=T.length) oV;refine⟨⟨⟨?_,?_⟩,?_⟩,?_,⟨?_,ok.feat.nodup⟩,?_,?_,?_,?_,ok.f2,ok.l1,?_⟩
 ·intro s hs;rw[A07]at hs;rcases A01.1 hs with hs|hs
  ·exact ok.att.names.word s hs
  ·simp at hs;subst hs;exact hw
 ·rw[A07,List.nodup_append];refine⟨ok.att.names.nodup,mV,fun a ha b hb e=>?_⟩;simp at hb;obtain⟨x,hx,rfl⟩:=A0u.1 ha;exact hn x hx (e.trans hb)
 ·intro a ha;rcases A01.1 ha with ha|ha
  ·exact ok.att.kind a ha
  ·simp at ha;subst ha;exact⟨mV,mV⟩
 ·rw[A0z];exact hR
 ·intro f hf;obtain⟨n,k,h1,h2⟩:=ok.feat.ok f hf;exact⟨n,k,by rw[A1d (A0s.1 h1).1];exact h1,h2⟩
 ·rw[A0z];simp
 ·rw[A0z];simp;omega
 ·rw[hRl];exact ok.r1
 ·rw[hRl];exact ok.r2
 ·intro l hl;obtain⟨n,h1⟩:=ok.l2 l hl;exact⟨n,by rw[A1d (A0s.1 h1).1];exact h1⟩
end
section
theorem Rs (T:List (List UInt8×Nat)):A3 2 (T.map D0):=by
 intro e he;obtain⟨x,_,rfl⟩:=A0u.1 he;exact⟨rfl,fun y hy=>by simp[D0,A1e]at hy;rcases hy with rfl|rfl<;>rfl⟩
theorem Aje (R:List Bk):A3 2 (R.map Gb):=by
 intro e he;obtain⟨x,_,rfl⟩:=A0u.1 he;exact Nk x _ mV
theorem Ane {u:PH}{v:Value}{T:List (List UInt8×Nat)}{R:List Bk}{F:List Ao}{lab:Int}(hX:F1 u v T R F lab)(ok:Bn u T R F lab)(hT:T.length<=11)(hn:∀ a∈T,a.1≠nmB T.length) :
 Fn0 prog 102 [v,.int .i64 2] u fun r u'=>∃ R',F1 u' r (T++[(nmB T.length,2)]) R' F lab/\Bn u' (T++[(nmB T.length,2)]) R' F lab:=by
 obtain⟨xa,xc,xb,xd,xe,xf,rfl,hTL,hRL,hFL⟩:=hX;have r1:=ok.r1;have r2:=ok.r2;obtain⟨R0,r,rfl⟩:∃ R0 r,R=R0++[r]:=⟨R.dropLast,R.getLast (fun e=>by rw[e]at r1;simp at r1),(List.dropLast_concat_getLast _).symm⟩;have hrl:=ok.rel.at' r mV;have hll:=ok.rel.len r mV;refine Fn0.o func102 ?_;refine G.appendL 92 2 24 (.agg #[.string (mkS []),.int .i64 0]) PH.mt [] (T.map D0) (.slice none 0 0) xa T.length xc kV rfl rfl oV (Ae.nil _ _ _) hTL (Rs T) gV gV ?_;intro v1 m1 hA1;rw[A2t]at hA1;obtain⟨a1,c1,rfl⟩:=hA1.shape;rw[A0p]at hA1⊢;refine G.c call179 (N9 (p:=[98]) (i:=T.length) oV mV) ?_;rintro v2 u2 l2 rfl;refine G.B 92 2 24 (.agg #[.string (mkS []),.int .i64 0]) [.agg #[.string (mkS ([98]++[Uj T.length])),.int .i64 2]] (Rs [(nmB T.length,2)]) ?_;intro g3 u3 l3 e3;refine G.k 92 2 24 (.agg #[.string (mkS []),.int .i64 0]) PH.mt (T.map D0) [D0 (nmB T.length,2)] (.slice a1 T.length c1) g3 0 1 1 hA1 e3 (Rs [(nmB T.length,2)]) ?_;intro v4 m4 hA4;rw[show T.map D0++[D0 (nmB T.length,2)]=(T++[(nmB T.length,2)]).map D0 by rw[A07];rfl]at hA4;obtain⟨a4,c4,rfl⟩:=hA4.shape;rw[A0p]at hA4⊢;refine G.appendL 94 2 40 (.agg #[.string (mkS []),.slice none 0 0]) m4 [] ((R0++[r]).map Gb) (.slice none 0 0) xb (R0++[r]).length xd kV rfl rfl oV (Ae.nil _ _ _) (hRL.mono (l2.trans l3)) (Aje _) (by rw[A0p];simp at r2⊢;omega) (by rw[A0p];simp at r2⊢;omega) ?_;intro v5 m5 hA5;rw[A2t]at hA5;obtain⟨b5,c5,rfl⟩:=hA5.ptr mV;rw[A0p]at hA5⊢;have hRl:(R0++[r]).length=R0.length+1:=mV
 refine G.s ((R0++[r]).length:Int) 1 (R0.length:Int) ?_;refine G.a b5 0 (R0++[r]).length c5 R0.length 2 oV ?_;have hel:ElP m5 b5 (0+R0.length*2) (Gb r):=hA5.el mV;refine G.f 94 b5 (0+R0.length*2) 1 1 ?_;refine G.lM none b5 (0+R0.length*2+1) (.slice r.2.2.1 r.2.1.length r.2.2.2) (hel.fld (j:=1) (xs:=#[.string (mkS r.1),.slice r.2.2.1 r.2.1.length r.2.2.2]) rfl rfl) ?_;have hil:(Ag r.2.1).length=r.2.1.length:=by simp[Ag]
 refine G.appendL 3 1 8 (.int .i64 0) m5 [] (Ag r.2.1) (.slice none 0 0) r.2.2.1 r.2.1.length r.2.2.2 kV rfl rfl oV (Ae.nil _ _ _) (hrl.mono (l2.trans l3)) (Ax _) (by simp[hil];omega) (by simp[hil];omega) ?_;intro v6 m6 hA6;rw[A2t]at hA6;obtain⟨a6,c6,rfl⟩:=hA6.shape;rw[hil]at hA6⊢;refine G.buildU 3 1 8 (.int .i64 0) (Ag [T.length]) kV (Ax [T.length]) rfl oV (by simp[Ag]) (by simp[Ag]) ?_;intro g7 u7 l7 e7;refine G.append 3 1 8 (.int .i64 0) m5 (Ag r.2.1) (Ag [T.length]) (.slice a6 r.2.1.length c6) g7 0 1 1 kV rfl rfl oV hA6 e7 (Ax [T.length]) rfl oV (by simp[hil];omega) (by simp[hil];omega) ?_;intro v8 m8 hA8;rw[show Ag r.2.1++Ag [T.length]=Ag (r.2.1++[T.length]) by simp[Ag]]at hA8;obtain⟨a8,c8,rfl⟩:=hA8.shape;have hil2:(Ag (r.2.1++[T.length])).length=(r.2.1++[T.length]).length:=by simp[Ag]
 rw[hil2]at hA8⊢;obtain⟨mx,hy1,hx1,hput⟩:=At.swap (x:=⟨.slice (some ⟨b5,0,none⟩) (R0++[r]).length c5,94,2,(R0++[r]).map Gb⟩) (y:=⟨.slice a8 (r.2.1++[T.length]).length c8,3,1,Ag (r.2.1++[T.length])⟩) hA8 hA5;refine G.f 94 b5 (0+R0.length*2) 1 1 ?_;refine G.storeE (t:=94) 2 1 mx ((R0++[r]).map Gb) b5 (R0++[r]).length c5 R0.length (Gb r) (Gb (r.1,r.2.1++[T.length],(a8,c8))) (.slice a8 (r.2.1++[T.length]).length c8) kV hx1 mV oV rfl rfl rfl ?_;intro m9 hA9;have e9:((R0++[r]).map Gb).set R0.length (Gb (r.1,r.2.1++[T.length],(a8,c8)))=(R0++[(r.1,r.2.1++[T.length],(a8,c8))]).map Gb:=by
  rw[A07,A07,A4k _ _ mV,A0p,Nat.sub_self];rfl
 rw[e9]at hA9;have hlm:PH.le mx m9:=fun g o hg=>hA9.see hg;obtain⟨my,hz1,hz2⟩:=hput ⟨.slice (some ⟨b5,0,none⟩) (R0++[r]).length c5,94,2,(R0++[(r.1,r.2.1++[T.length],(a8,c8))]).map Gb⟩ m9 hA9;have hl4:PH.le m4 m9:=fun g o hg=>hlm g o (hy1.see hg);refine G.giveP (ma:=m9) (sm:=PH.mt) kV (Aii m9).symm (fun g=>.inr rfl) (fun g=>.inl rfl) ?_;intro u10 l10 hm10;have leA:=((l2.trans l3).trans l7).trans l10;have hR':Mh u10 (T.length+1) (R0++[(r.1,r.2.1++[T.length],(a8,c8))]):=Ahn ok.rel leA oV (Ae.list hy1 (hlm.trans hm10));have hlen':(R0++[(r.1,r.2.1++[T.length],(a8,c8))]).length=(R0++[r]).length:=mV
 exact G.r (.agg #[.slice a4 (T++[(nmB T.length,2)]).length c4,.slice (some ⟨b5,0,none⟩) (R0++[r]).length c5,.slice xe F.length xf,.int .i64 lab]) ⟨rfl,_,⟨_,_,_,_,_,_,by rw[hlen'],Ae.list hA4 (hl4.trans hm10),by rw[hlen'];exact Ae.list hA9 hm10,hFL.mono leA⟩,Ag5 ok hT hn hR' hlen'⟩
end
section
variable {R:List Bk}{T:List (List UInt8×Nat)}{a:Nat}{lab:Int}{n:List UInt8}{u:PH}
def Af1 (T:List (List UInt8×Nat)):Prop:=∀ a∈T,(∃ j,a.1=nmA j)\/∃ j,j<T.length/\a.1=nmB j
theorem Ain (h:Af1 T)(hT:T.length<26):∀ a∈T,a.1≠nmB T.length:=by
 intro a ha e;rcases h a ha with ⟨j,hj⟩|⟨j,hj,e2⟩
 ·rw[hj]at e;unfold nmA nmB at e;simp at e
 ·rw[e2]at e;unfold nmB at e;simp only[List.cons_append,A2t,List.cons.injEq,and_true,true_and]at e;have h1:=Rk (i:=j) oV;have h2:=Rk (i:=T.length) hT;rw[e,h2]at h1;omega
theorem Af1.snoc (h:Af1 T)(k:Nat):Af1 (T++[(nmB T.length,k)]):=by
 intro a ha;rcases A01.1 ha with ha|ha
 ·rcases h a ha with h1|⟨j,hj,e⟩
  ·exact .inl h1
  ·exact .inr ⟨j,gV,e⟩
 ·simp at ha;subst ha;exact .inr ⟨T.length,mV,rfl⟩
theorem TOK.nmOK (h:TOK T):Af1 T:=by
 intro a ha;have:a.1∈T.map (·.1):=A0u.2 ⟨a,ha,rfl⟩;rw[h.nm]at this;obtain⟨j,_,e⟩:=A0u.1 this;exact .inl ⟨j,e.symm⟩
theorem Aea {F:List Ao}(ok:Bn u T R F lab)(ha:T[a]?=some (n,2))(hF:∀ f∈F,f.1≠a):Bn u T R F (a:Int):=by
 refine⟨ok.att,ok.rel,⟨fun f hf=>?_,ok.feat.nodup⟩,ok.t1,ok.t2,ok.r1,ok.r2,ok.f2,oV,fun l hl=>?_⟩
 ·obtain⟨n,k,h1,h2,_⟩:=ok.feat.ok f hf;have:=hF f hf;exact⟨n,k,h1,h2,oV⟩
 ·have:l=a:=oV
  subst this;exact⟨n,ha⟩
theorem Ai8 (ok:Bn u T R [] lab){a mi:Nat}(ha:T[a]?=some (n,2))(hl:(a:Int)≠lab)(hm:mi<=1):Bn u T R [(a,1,mi)] lab:=by
 refine⟨ok.att,ok.rel,⟨fun f hf=>?_,mV⟩,ok.t1,ok.t2,ok.r1,ok.r2,mV,ok.l1,ok.l2⟩;simp at hf;subst hf;exact⟨n,2,ha,.inl ⟨rfl,rfl,hm⟩,hl⟩
theorem Wy {s:Src}{ts:List Int}{k:Nat}(most:Nat)(hm1:1<=most)(hm6:most<=6)(h:Aq7 u s ts)(hk:k<=s.n) :
 Ai prog 45 [s.ptr,.int .i64 (most:Int)] u (s.M k) fun v u' m'=>∃ (T:List (List UInt8×Nat)) (R:List Bk) (F:List Ao) (lab:Int) (k':Nat),F1 u' v T R F lab/\Bn u' T R F lab/\T.length<=8/\0<=lab/\F≠[]/\k'<=s.n/\m'=s.M k'/\F.length<=most:=by
 refine Ai.o func45 ?_;refine G.A call100 (Z1 most hm1 hm6 h hk) ?_;rintro v1 u1 m1 l1 ⟨T,R,F,lab,k1,hX,ok,hT6,hk1,rfl,hTOK,_,hFm⟩ _;rw[C2];have hnm:=hTOK.nmOK;obtain⟨xa,xc,xb,xd,xe,xf,rfl,hTL,hRL,hFL⟩:=id hX;have ol1:=ok.l1;have hf8:=ok.f2;refine G.joinF (ι:=Int) (fun st=>Xy prog st [.bool false]) (fun z=>[(0,.v s.ptr),(4,.p 0 0),(5,.p 1003 0)])
  (fun z=>[(0,⟨31,[sV none 0 0,sV none 0 0,sV none 0 0,iV 0]⟩),(1003,⟨31,[sV xa T.length xc,sV xb R.length xd,sV xe F.length xf,iV z]⟩)])
  (fun z u' m'=>m'=s.M k1/\Bn u' T R F z) (fun _=>kV) kV ?tail ?way
 case way =>
  intro hjoin;by_cases hl:lab<0
  ·refine G.lT' lab 0 hl ?_;refine G.l (ι:=Nat×Int) (fun i=>[(0,.v s.ptr),(4,.p 0 0),(5,.p 1003 0),(15,sV xa T.length xc),(16,iV T.length),(17,iV i.1)])
    (fun i=>[(0,⟨31,[sV none 0 0,sV none 0 0,sV none 0 0,iV 0]⟩),(1003,⟨31,[sV xa T.length xc,sV xb R.length xd,sV xe F.length xf,iV i.2]⟩)])
    (fun i u' m'=>i.1<=T.length/\m'=s.M k1/\Bn u' T R F i.2) (fun i=>T.length-i.1) (0,lab) ⟨oV,rfl,ok⟩ ?_
   rintro J ⟨i,z⟩ hJ u2 m2 l2 ⟨hi,rfl,ok2⟩;simp only at hi ok2 hJ;by_cases hlt:i<T.length
   ·refine G.lT (i:Int) (T.length:Int) ?_;obtain⟨x,hTi⟩:∃ x,T[i]?=some x:=⟨_,A0n hlt⟩;obtain⟨ba,oa,rfl,ea⟩:=Ab.at' (hTL.mono l2) (j:=i) (e:=D0 x) (by simp[hTi]);obtain⟨xn,xk⟩:=x;refine G.a ba oa T.length xc i 2 hlt ?_;refine G.lU (some 2) ba (oa+i*2) (.agg #[.string (mkS xn),.int .i64 (xk:Int)]) ea ?_;by_cases h2:xk=2
    ·subst h2;refine G.eT ((2:Nat):Int) 2 ?_;refine G.c call101 (Aps (a:=i) (hFL.mono l2) oV) ?_;rintro v3 u3 l3 rfl;cases hu:F.any fun f=>f.1==i with
     |true =>
      refine G.i i ?_;exact G.b (hJ (i+1,z) _ _ _ cV (l2.trans l3) ⟨dV,rfl,ok2.mono l3⟩ dV)
     |false =>
      refine G.i i ?_;exact G.b (hJ (i+1,(i:Int)) _ _ _ cV (l2.trans l3) ⟨dV,rfl,Aea (ok2.mono l3) hTi fun f hf e=>by
       have:=A7i.1 hu f hf;simp[e]at this⟩ dV)
    ·refine G.eF (xk:Int) 2 ?_;refine G.i i ?_;exact G.b (hJ (i+1,z) _ _ _ cV l2 ⟨dV,rfl,ok2⟩ dV)
   ·obtain rfl:i=T.length:=oV
    refine G.lF (T.length:Int) (T.length:Int) ?_;exact hjoin z _ _ _ kV cV l2 ⟨rfl,ok2⟩
  ·refine G.lF lab 0 ?_;exact hjoin lab _ _ _ kV cV (PH.le_refl _) ⟨rfl,ok⟩
 rintro z u2 m2 l2 ⟨rfl,ok2⟩;have hX2:F1 u2 (.agg #[.slice xa T.length xc,.slice xb R.length xd,.slice xe F.length xf,.int .i64 z]) T R F z:=⟨_,_,_,_,_,_,rfl,hTL.mono l2,hRL.mono l2,hFL.mono l2⟩;have hFL2:=hFL.mono l2;clear hX hTL hRL ok hTOK hFL;refine G.joinF (ι:=(List (List UInt8×Nat)×(Option Addr×Nat))×(List Bk×(Option Addr×Nat))×(Option Addr×Nat)×Int) (fun st=>Xy prog st [.bool false]) (fun _=>[(0,.v s.ptr),(4,.p 0 0),(5,.p 1003 0)])
  (fun i=>[(0,⟨31,[sV none 0 0,sV none 0 0,sV none 0 0,iV 0]⟩),(1003,⟨31,[sV i.1.2.1 i.1.1.length i.1.2.2,sV i.2.1.2.1 i.2.1.1.length i.2.1.2.2,sV i.2.2.1.1 F.length i.2.2.1.2,iV i.2.2.2]⟩)])
  (fun i u' m'=>m'=s.M k1/\Bn u' i.1.1 i.2.1.1 F i.2.2.2/\F1 u' (.agg #[.slice i.1.2.1 i.1.1.length i.1.2.2,.slice i.2.1.2.1 i.2.1.1.length i.2.1.2.2,.slice i.2.2.1.1 F.length i.2.2.1.2,.int .i64 i.2.2.2]) i.1.1 i.2.1.1 F i.2.2.2/\Af1 i.1.1/\i.1.1.length<=7/\0<=i.2.2.2) (fun _=>kV) kV ?tail2 ?way2
 case way2 =>
  intro hjoin;by_cases hl:z<0
  ·refine G.lT' z 0 hl ?_;refine G.c call102 (Ane hX2 ok2 oV (Ain hnm oV)) ?_;rintro v3 u3 l3 ⟨R',hX3,ok3⟩;obtain⟨ya,yc,yb,yd,ye,yf,rfl,hTL3,hRL3,hFL3⟩:=id hX3;have hlen:(T++[(nmB T.length,2)]).length=T.length+1:=mV
   refine G.s ((T++[(nmB T.length,2)]).length:Int) 1 (T.length:Int) ?_;have ok4:Bn u3 (T++[(nmB T.length,2)]) R' F (T.length:Int):=Aea ok3 (n:=nmB T.length) mV fun f hf e=>by
    obtain⟨n,kd,h1,_⟩:=ok2.feat.ok f hf;have:=(A0s.1 h1).1;omega
   exact hjoin ((T++[(nmB T.length,2)],(ya,yc)),(R',(yb,yd)),(ye,yf),(T.length:Int)) _ _ _ kV cV l3 ⟨rfl,ok4,⟨_,_,_,_,_,_,rfl,hTL3,hRL3,hFL3⟩,hnm.snoc 2,dV,dV⟩
  ·refine G.lF z 0 ?_;exact hjoin ((T,(xa,xc)),(R,(xb,xd)),(xe,xf),z) _ _ _ kV cV (PH.le_refl _) ⟨rfl,ok2,hX2,hnm,dV,dV⟩
 rintro⟨⟨T,⟨xa,xc⟩⟩,⟨R,⟨xb,xd⟩⟩,⟨xe,xf⟩,z⟩ u3 m3 l3 ⟨rfl,ok3,hX3,hnm,hT7,hz⟩;simp only at ok3 hX3 hnm hT7 hz;by_cases hF0:F = []
 ·subst hF0;refine G.eT' ((([]:List Ao).length:Nat):Int) 0 rfl ?_;refine G.c call102 (Ane hX3 ok3 oV (Ain hnm oV)) ?_;rintro v4 u4 l4 ⟨R',hX4,ok4⟩;obtain⟨ya,yc,yb,yd,ye,yf,rfl,hTL4,hRL4,hFL4⟩:=id hX4;have hlen:(T++[(nmB T.length,2)]).length=T.length+1:=mV
  refine G.s ((T++[(nmB T.length,2)]).length:Int) 1 (T.length:Int) ?_;refine G.A call73 (Ia (n:=2) (h.mono (((l1.trans l2).trans l3).trans l4)) hk1 oV oV) ?_;rintro v5 u5 m5 l5 ⟨r,k5,rfl,hr,hk5,rfl⟩ _;rw[C2];refine G.B 144 3 24 (.agg #[.int .i64 0,.int .i64 0,.int .i64 0]) [.agg #[.int .i64 (T.length:Int),.int .i64 1,.int .i64 (r:Int)]] (Hu (T.length,1,r)) ?_;intro g6 u6 l6 e6;have hzl:((T.length:Nat):Int)≠z:=by
   intro e;obtain⟨n,hn⟩:=ok3.l2 T.length e.symm;have:=(A0s.1 hn).1;omega
  have ok6:Bn u6 (T++[(nmB T.length,2)]) R' [(T.length,1,r)] z:=Ai8 (n:=nmB T.length) (ok4.mono (l5.trans l6)) mV hzl oV;exact G.r (.agg #[.slice ya (T++[(nmB T.length,2)]).length yc,.slice yb R'.length yd,.slice (some ⟨g6,0,none⟩) 1 1,.int .i64 z]) ⟨_,R',[(T.length,1,r)],z,k5,⟨_,_,_,_,_,_,rfl,hTL4.mono (l5.trans l6),hRL4.mono (l5.trans l6),e6.listP⟩,ok6,oV,hz,mV,hk5,rfl,hm1⟩
 ·refine G.eqlF (F.length:Int) 0 kV (by
   have:F.length≠0:=fun e=>hF0 (List.length_eq_zero_iff.1 e);omega) ?_
  exact G.r (.agg #[.slice xa T.length xc,.slice xb R.length xd,.slice xe F.length xf,.int .i64 z]) ⟨T,R,F,z,k1,hX3,ok3,oV,hz,hF0,hk1,rfl,hFm⟩
end
section
theorem Ana {n:Nat}(h:n<=8):46656^n*7*100<10^100:=by
 have h1:46656^n<=46656^8:=A1l oV h;have h2:46656^8<10^50:=jV
 have h3:(10:Nat)^50*100000<10^100:=jV
 omega
theorem S9 {u:PH}{T:List (List UInt8×Nat)}{R:List Bk}{F:List Ao}{lab:Int}(ok:Bn u T R F lab)(hT:T.length<=8){L:List E7}(hL:∀ y∈L,Cr T y.1/\y.2.1<=7)(hl:L.length<=100):CFS (C8 F lab L)/\CFV (C8 F lab L):=by
 obtain⟨s1,s2⟩:=Wr ok hL;refine⟨s1.cfs oV ?_,s2⟩;have hp:=Ana hT;have:=A12 (46656^T.length*7) hl;omega
end
section
variable {L:List E7}
theorem Aec {F:List Ao}{lab:Int}:∀ p,(C8 F lab L).s p≠0->Aar F lab p:=fun p hp=>by
 obtain⟨y,hy,hne⟩:=Adn hp;exact (Acc hne).1
theorem WOK.tup {u:PH}{T:List (List UInt8×Nat)}(h:WOK u T L):∀ y∈L,Cr T y.1/\y.2.1<=7:=fun y hy=>by
 obtain⟨_,q1,_,q2⟩:=h y hy;exact⟨q1,q2⟩
end
section
variable {F:List Ao}{T:List (List UInt8×Nat)}{lab:Int}
theorem Ann {ss:List (List UInt8)}{p:Par}{i:Nat}{f:Ao}(hF:Dk T F lab)(ht:Cr T ss)(hne:(cfT F lab ss).s p≠0)(hp:p.1=(i:Int))(hf:F[i]?=some f)(hk:f.2.1=2):p.2 = []\/Ac1 p.2=true:=by
 obtain⟨_,a,q,ha,_⟩:=Acc hne;have hla:a<ss.length:=by
  have:=(A0s.1 ha).1;rwa[F3]at this
 have e:=Gq (F:=F) (lab:=lab) (w:=ss[a]) (A0n hla);rw[ha]at e;have e2:Fg F lab a ss[a]=some (some (p,q)):=(A2d e).symm;obtain⟨x,hx,hv⟩:=ht.at hla;generalize ss[a]=w at e2 hv;by_cases hl:(a:Int)=lab
 ·have e4:Fg F lab a w=O7 w:=by unfold Fg;rw[if_pos hl]
  rw[e4]at e2;unfold O7 at e2;split at e2
  ·cases e2
  ·simp only[A0t,A1r]at e2;obtain⟨rfl,_⟩:=e2;simp only at hp;omega
 ·rcases Ga (F:=F) (w:=w) hl with h1|⟨j,g,hg,hga,h1⟩
  ·rw[h1]at e2;cases e2
  ·rw[h1]at e2;have hji:p.1=(j:Int):=by
    unfold Jk at e2;split at e2
    ·cases e2;rfl
    ·split at e2
     ·split at e2<;>cases e2
     ·cases e2;rfl
   obtain rfl:j=i:=oV
   rw[hg]at hf;cases hf;unfold Jk at e2;rw[if_pos hk]at e2;simp only[A0t,A1r]at e2;obtain⟨rfl,_⟩:=e2;obtain⟨n,k,h1,h2,_⟩:=hF.ok f (A1b hg);rw[hga,hx]at h1;cases h1;rcases hv with h|⟨_,h⟩|⟨h,_⟩|⟨h,_⟩
   ·exact .inl h
   ·exact .inr h
   ·omega
   ·omega
theorem Ye {α β:Type}{f:α->List β}{n:Nat}:∀ {l:List α},(∀ x∈l,(f x).length<=n)->(l.flatMap f).length<=l.length*n
 |[],_=>mV
 |x::l,h=>by
  rw[List.flatMap_cons,A0z,A2n,A1o,A3d];have h1:=h x mV;have h2:=Ye (l:=l) fun y hy=>h y (by simp[hy]);omega
theorem Al6 {L:List E7}{P:List Par}(hF:Dk T F lab)(hT:∀ y∈L,Cr T y.1)(hP:R1 F (C8 F lab L) P):P.length<=F.length*4:=by
 have hsub:P ⊆ (A1q F.length).flatMap fun (i:Nat)=>[((i:Int),([]:List UInt8)),((i:Int),Ack),((i:Int),M0),((i:Int),Tg)]:=fun p hp=>by
  rcases (hP.2 p).1 hp with ⟨i,f,rfl,hf,_⟩|⟨hne,i,f,h1,hf,h2⟩
  ·exact A7s.2 ⟨i,by simpa using (A0s.1 hf).1,by unfold Iw;simp⟩
  ·refine A7s.2 ⟨i,by simpa using (A0s.1 hf).1,?_⟩;obtain⟨y,hy,hy2⟩:=Adn hne;obtain⟨p1,p2⟩:=p;simp only at h1;subst h1;rcases Ann hF (hT y hy) hy2 rfl hf h2 with h3|h3
   ·simp only at h3;subst h3;simp
   ·rcases Alx h3 with h4|h4|h4<;>· simp only at h4;subst h4;simp
 have h1:=List.Nodup.length_le_of_subset (hP.1.nodup Dp) hsub;refine A0q h1 ?_;have:=Ye (l:=A1q F.length) (n:=4) (f:=fun (i:Nat)=>[((i:Int),([]:List UInt8)),((i:Int),Ack),((i:Int),M0),((i:Int),Tg)]) fun x _=>mV
 rw[List.length_range]at this;exact this
end
section
variable {F:List Ao}{R:List Bk}{T:List (List UInt8×Nat)}{lab:Int}{u:PH}
theorem Aom {ss:List (List UInt8)}(ok:Bn u T R F lab)(ht:Cr T ss)(h1:-1<=lab)(h2:∀ l:Nat,lab=(l:Int)->l<ss.length)(hc:T4 F lab ss=true)(p:Par):Dn 1 108 ((cfT F lab ss).s p):=by
 by_cases h:(cfT F lab ss).s p=0
 ·rw[h];exact Dn.zero _ _
 ·obtain⟨_,a,q,ha,_⟩:=Acc h;rw[Ajr ok.feat ht h1 h2 hc ha];exact Dn.smr (show SmR q/\PV p from Kt ok ht _ (A1b ha)).1
theorem An6 {x:Par->Rat}(h:∀ p,Dn 1 108 (x p)):∀ e,Dn 1 108 (Afw x e)
 |none=>Dn.smr (show SmR 1 from⟨jV,jV⟩)
 |some p=>h p
structure G5 (N:Nat)(C:CF):Prop where
 c:∀ e f,Dn 2 N (As C e f)
 r:∀ e,Dn 2 N (Ay C e)
 l:Dn 2 N (C.t (Ap Aq Aq))
theorem Ae2 (ok:Bn u T R F lab)(h1:-1<=lab)(h2:∀ l:Nat,lab=(l:Int)->l<T.length):∀ {L:List E7},(∀ y∈L,Cr T y.1/\y.2.1<=7)->G5 (L.length*81648) (C8 F lab L):=by
 intro L;induction L using Iv with
 |h0=>exact fun _=>⟨fun e f=>by rw[show C8 F lab []=CF.num 0 from rfl,Ans.cell];exact Dn.zero _ _,fun e=>by cases e<;>exact Dn.zero _ _,Dn.zero _ _⟩
 |h1 L y ih =>
  intro h;have i1:=ih fun z hz=>h z (A24 _ hz);obtain⟨hy,hw⟩:=h y mV;have hlen:=hy.len;have hl:∀ l:Nat,lab=(l:Int)->l<y.1.length:=fun l e=>by have:=h2 l e;omega
  have one:G5 11664 (cfT F lab y.1):=by
   rcases L9 ok.feat hy h1 hl with ⟨hc,o⟩|⟨_,o⟩
   ·have hd:=Aom ok hy h1 hl hc;have he:=An6 hd;exact⟨fun e f=>by rw[o.cell];exact (he e).mul (he f),fun e=>by rw[o.right];exact (hd Aq).mul (he e),by rw[o.t];exact (hd Aq).mul (hd Aq)⟩
   ·have hn:cfT F lab y.1=cfT F lab y.1:=rfl;refine⟨fun e f=>by rw[o.cell];exact Dn.zero _ _,fun e=>?_,?_⟩
    ·cases e
     ·show Dn 2 11664 ((cfT F lab y.1).s Aq);rw[o.s];exact Dn.zero _ _
     ·show Dn 2 11664 ((cfT F lab y.1).t _);rw[o.t];exact Dn.zero _ _
    ·rw[o.t];exact Dn.zero _ _
  have add:∀ {q r:Rat},Dn 2 (L.length*81648) q->Dn 2 11664 r->Dn 2 ((L++[y]).length*81648) (q+r*(y.2.1:Rat)):=fun hq hr=>by
   refine (hq.add (hr.mul (Akk hw))).mono ?_;rw[A0z,A1o];simp
  rw[F5];exact⟨fun e f=>by rw[Vv];exact add (i1.c e f) (one.c e f),fun e=>by rw[T2];exact add (i1.r e) (one.r e),add i1.l one.l⟩
theorem Aoh (hF:Dk T F lab)(h1:-1<=lab)(h2:∀ l:Nat,lab=(l:Int)->l<T.length)(z:Option Par->Rat)(P:List Par):∀ {L:List E7},(∀ y∈L,Cr T y.1)->0<=sqC z P (C8 F lab L):=by
 intro L;induction L using Iv with
 |h0=>exact fun _=>by show 0<=sqC z P (CF.num 0);rw[Ans.sq z P];exact Bbd
 |h1 L y ih =>
  intro h;have i1:=ih fun z hz=>h z (A24 _ hz);have hy:=h y mV;have hlen:=hy.len;rw[F5,Alu];rcases L9 hF hy h1 (fun l hl=>by have:=h2 l hl;omega) with ⟨_,o⟩|⟨_,o⟩
  ·rw[o.sq];generalize (cfT F lab y.1).s Aq-Ua z P (cfT F lab y.1).s=v;have hw:(0:Rat)<=(y.2.1:Rat):=by
    have:((0:Nat):Rat)<=(y.2.1:Rat):=A5k.2 (A1m _);exact this
   have hv:0<=v*v:=by
    rcases A8c (a:=0) (b:=v) with h|h
    ·exact A2f h h
    ·have:=A2f (a:=-v) (b:=-v) (by grind) (by grind);grind
   have:=A2f hv hw;grind
  ·rw[o.sq];grind
end
section
variable {α:Type}
theorem Acq (l:List α)(d:α):l=(A1q l.length).map fun j=>l.getD j d:=by
 refine List.ext_getElem mV fun j h1 h2=>?_;simp[A0o,A0n h1]
theorem R3 (f:α->Rat)(l:List α)(d:α):Au f l=Dm l.length fun j=>f (l.getD j d):=by
 unfold Dm;rw[<-On (f:=f) (fun j=>l.getD j d),<-Acq]
theorem Y4 (n:Nat)(f g:Nat->Rat):Dm n (fun i=>f i+g i)=Dm n f+Dm n g:=D1 _
theorem Aac {n i:Nat}(t:Rat)(y:Nat->Rat):Dm n (fun j=>(if i=j/\0<i then t else 0)*y j)=if i<n/\0<i then t*y i else 0:=by
 induction n with
 |zero=>rw[Pb,if_neg oV]
 |succ n ih =>
  rw[F0,ih];by_cases h0:0<i
  ·by_cases h1:i<n
   ·rw[if_pos ⟨h1,h0⟩,if_neg oV,if_pos ⟨oV,h0⟩];grind
   ·by_cases h2:i=n
    ·rw[if_neg oV,if_pos ⟨h2,h0⟩,if_pos ⟨oV,h0⟩,h2];grind
    ·rw[if_neg oV,if_neg oV,if_neg oV];grind
  ·rw[if_neg oV,if_neg oV,if_neg oV];grind
section
variable {P:List Par} {C:CF} {b:Option Par->Rat} {k:Rat} {N:Nat}
theorem Ady (hc:G5 N C)(hN:N<=489888)(hP:P.length<=11)(hk:∃ p:Int,k*30=p/\p.natAbs<=90)(hk0:0<k)(hcp:0<C.c)(hpsd:∀ z,0<=Bm z P C)(h:Fv P C k b) :
 ∃ D:Nat,0<D/\D<10^103/\∀ e∈Ak P,∃ z:Int,b e*(D:Rat)=z:=by
 obtain⟨p,hp,hp90⟩:=hk;have hlen:=Bo P;obtain⟨E,hE⟩:∃ E,E=Ak P:=⟨_,rfl⟩;rw[<-hE]at hlen;have hem:∀ i,i<P.length+1->E.getD i none∈Ak P:=fun i hi=>by
  rw[<-hE,A0o,A0n oV];exact A04 _
 have hpos:∀ i,i<P.length+1->0<i->∃ q,E.getD i none=some q:=fun i hi h0=>by
  obtain⟨j,rfl⟩:∃ j,i=j+1:=⟨i-1,oV⟩;rw[hE];unfold Ak;rw[A5b,A0o,A0v,A0n oV];exact⟨_,rfl⟩
 have h0:E.getD 0 none=none:=by rw[hE];rfl
 have hsum:∀ (f:Option Par->Rat),Au f (Ak P)=Dm (P.length+1) fun j=>f (E.getD j none):=fun f=>by rw[R3 f _ none,<-hE,hlen]
 have hcz:∀ e f,∃ z:Int,As C e f*144=z/\z.natAbs<=N:=fun e f=>by
  obtain⟨z,h1,h2⟩:=hc.c e f;exact⟨z,by rw[<-h1];congr 1,h2⟩
 have hrz:∀ e,∃ z:Int,Ay C e*144=z:=fun e=>by
  obtain⟨z,h1,h2⟩:=hc.r e;exact⟨z,by rw[<-h1];congr 1⟩
 generalize hZ:(fun e f=>(hcz e f).choose)=Z;have hZ:∀ e f,As C e f*144=Z e f/\(Z e f).natAbs<=N:=fun e f=>by rw[<-hZ];exact (hcz e f).choose_spec
 have hA:∀ i j,((Z (E.getD i none) (E.getD j none)*30+(if i=j/\0<i then p*144 else 0):Int):Rat)=4320*As C (E.getD i none) (E.getD j none)+(if i=j/\0<i then 4320*k else 0):=fun i j=>by
  have h1:=(hZ (E.getD i none) (E.getD j none)).1;rw[A48,A23,<-h1];split
  ·rw[A23,<-hp];simp;grind
  ·simp;grind
 have hrow:∀ (y:Option Par->Rat) i,i<P.length+1->Dm (P.length+1) (fun j=>((Z (E.getD i none) (E.getD j none)*30+(if i=j/\0<i then p*144 else 0):Int):Rat)*y (E.getD j none))=4320*(Au (fun f=>As C (E.getD i none) f*y f) (Ak P)+Kp k y (E.getD i none)):=fun y i hi=>by
  rw[Er (g:=fun j=>4320*(As C (E.getD i none) (E.getD j none)*y (E.getD j none))+(if i=j/\0<i then 4320*k else 0)*y (E.getD j none)) fun j _=>by rw[hA];grind,Y4,Nr,Aac (4320*k) fun j=>y (E.getD j none),<-hsum fun f=>As C (E.getD i none) f*y f];by_cases h0i:0<i
  ·obtain⟨q,hq⟩:=hpos i hi h0i;rw[if_pos ⟨hi,h0i⟩,hq];unfold Kp;grind
  ·rw[if_neg oV,show i=0 by omega,h0];unfold Kp;grind
 obtain⟨D,hD0,hD,hDz⟩:=Akr (n:=P.length+1) (M:=14709600) (A:=fun i j=>Z (E.getD i none) (E.getD j none)*30+(if i=j/\0<i then p*144 else 0)) (x:=fun j=>b (E.getD j none))
  (fun i j _ _=>by
   have:=(hZ (E.getD i none) (E.getD j none)).2;split<;>omega)
  (fun i hi=>by
   obtain⟨z,hz⟩:=hrz (E.getD i none);exact⟨z*30,by rw[hrow b i hi,h _ (hem i hi),A23,<-hz];simp;grind⟩)
  (fun g hg j hj=>Aji (z:=fun e=>g (b e)) hk0 hcp hpsd (fun e he=>by
   obtain⟨i,hi,rfl⟩:=A19 he;have hi':i<P.length+1:=by rw[<-hlen,hE];exact hi
   have h1:=hg i hi';rw[hrow (fun e=>g (b e)) i hi']at h1;have e1:E.getD i none=(Ak P)[i]:=by rw[hE,A0o,A0n hi];rfl
   rw[e1]at h1;rcases A6c.1 h1 with h2|h2
   ·exact absurd h2 jV
   ·exact h2) _ (hem j hj))
 refine⟨D,hD0,A2q hD ?_,fun e he=>?_⟩
 ·have h1:2*((P.length+1)*14709600)+1<=353030401:=oV
  refine A2q (A0q (Nat.pow_le_pow_left h1 _) (A1l (n:=353030401) oV (show P.length+1<=12 by omega))) jV
 ·obtain⟨i,hi,rfl⟩:=A19 he;have hi':i<P.length+1:=by rw[<-hlen,hE];exact hi
  have e1:E.getD i none=(Ak P)[i]:=by rw[hE,A0o,A0n hi];rfl
  have:=hDz i hi';rwa[e1]at this
theorem Ank {x:Rat}{m:Rat}(h0:0<=m)(h:x*x<=m*m):-m<=x/\x<=m:=by
 constructor
 ·refine A99.1 fun hl=>?_;have:=Bbe (a:=-x-m) (b:=-x+m) (by grind) (by grind);grind
 ·refine A99.1 fun hl=>?_;have:=Bbe (a:=x-m) (b:=x+m) (by grind) (by grind);grind
theorem Xu {q:Rat}(h:Dn 2 N q)(hN:N<=489888):-3402<=q/\q<=3402:=by
 obtain⟨z,h1,h2⟩:=h;have e:((12^2:Nat):Rat)=144:=jV
 rw[e]at h1;have a1:((z:Int):Rat)<=((489888:Int):Rat):=A3t.2 oV;have a2:(((-489888:Int)):Rat)<=(z:Rat):=A3t.2 oV;rw[show ((489888:Int):Rat)=489888 by decide +kernel]at a1;rw[show ((-489888:Int):Rat) = -489888 by decide +kernel]at a2;constructor<;>grind
theorem Aek:∀ {P:List Par} {p:Par},p∈P->b (some p)*b (some p)<=G9 P b
 |q::P,p,hp=>by
  have nn:∀ r:Par,0<=b (some r)*b (some r):=fun r=>by
   rcases A8c (a:=0) (b:=b (some r)) with h|h
   ·exact A2f h h
   ·have:=A2f (a:=-b (some r)) (b:=-b (some r)) (by grind) (by grind);grind
  have e:G9 (q::P) b=b (some q)*b (some q)+G9 P b:=rfl;have h1:=Rn P b;have h2:=nn q;rw[e];rcases A02.1 hp with rfl|hp
  ·grind
  ·have:=Aek hp;grind
theorem Zp {α:Type}{f:α->Rat}{m:Rat}:∀ {l:List α},(∀ a∈l,-m<=f a/\f a<=m)->-((l.length:Rat)*m)<=Au f l/\Au f l<=(l.length:Rat)*m
 |[],_=>by show -(((0:Nat):Rat)*m)<=0/\0<=((0:Nat):Rat)*m;rw[show ((0:Nat):Rat)=0 from rfl];constructor<;>grind
 |a::l,h=>by
  have h1:=h a (A3r ..);have h2:=Zp fun x hx=>h x (A1w _ hx);have e:Au f (a::l)=f a+Au f l:=rfl;rw[e,A2n,A60,show ((1:Nat):Rat)=1 from rfl];constructor<;>grind
theorem Ali (hc:G5 N C)(hN:N<=489888)(hP:P.length<=11)(hk:∃ p:Int,k*30=p/\p.natAbs<=90)(hk0:0<k)(hcp:1<=C.c)(hpsd:∀ z,0<=Bm z P C)(hsq:0<=sqC b P C)(h:Fv P C k b) :
 ∀ e∈Ak P,-20000000<=b e/\b e<=20000000:=by
 obtain⟨p,hp,hp90⟩:=hk;have hl:=h.least (Ba0 hk0) hpsd fun _=>0;have e0:sqC (fun _=>0) P C=C.t (Ap Aq Aq):=by
  unfold sqC;rw[Aau P C fun _=>rfl,Bv fun e _=>Rat.zero_mul _];grind
 have e1:G9 P (fun _=>0)=0:=Bv fun p _=>Bcn _;rw[e0,e1]at hl;have hll:=(Xu hc.l hN).2;have hk1:1<=k*30:=by
  rw[hp];have h1:((0:Int):Rat)<(p:Rat):=by rw[<-hp];show 0<k*30;exact Bbe hk0 jV
  have h2:(0:Int)<p:=Rat.intCast_lt_intCast.1 h1;exact (A3t (a:=1) (b:=p)).2 oV
 have hs0:=Rn P b;have hs:G9 P b<=102060:=by
  have:=A2f (a:=k*30-1) (b:=G9 P b) (by grind) hs0;grind
 have hbp:∀ q∈P,-320<=b (some q)/\b (some q)<=320:=fun q hq=>by
  have h1:=Aek (b:=b) hq;have e:(320:Rat)*320=102400:=jV
  exact Ank jV (by grind)
 have hn:b none*C.c=C.s Aq-Au (fun q=>C.s q*b (some q)) P:=by
  have h1:=h none (by unfold Ak;simp);rw[Gf]at h1;have c1:As C none none=C.c:=rfl;have c2:Ay C none=C.s Aq:=rfl;have c3:Au (fun q=>As C none (some q)*b (some q)) P=Au (fun q=>C.s q*b (some q)) P:=rfl;rw[c1,c2,c3]at h1;unfold Kp at h1;grind
 have hsum:=Zp (f:=fun q=>C.s q*b (some q)) (m:=1088640) (l:=P) fun q hq=>by
  have h1:=Xu (hc.c none (some q)) hN;have c1:As C none (some q)=C.s q:=rfl;rw[c1]at h1;have h2:=hbp q hq;generalize C.s q=s at h1;generalize b (some q)=t at h2;have a1:=A2f (a:=3402-s) (b:=320+t) (by grind) (by grind);have a2:=A2f (a:=3402+s) (b:=320-t) (by grind) (by grind);have a3:=A2f (a:=3402-s) (b:=320-t) (by grind) (by grind);have a4:=A2f (a:=3402+s) (b:=320+t) (by grind) (by grind);constructor<;>grind
 have hlen:((P.length:Nat):Rat)<=11:=(A5k (a:=P.length) (b:=11)).2 hP;have hlab:=Xu (hc.r none) hN;have c2:Ay C none=C.s Aq:=rfl;rw[c2]at hlab;have hnn:-20000000<=b none/\b none<=20000000:=by
  generalize Au (fun q=>C.s q*b (some q)) P=S at hn hsum;generalize ((P.length:Nat):Rat)=L at hlen hsum;have hcc:-20000000<=b none*C.c/\b none*C.c<=20000000:=by rw[hn];constructor<;>grind
  generalize b none=x at hcc;generalize C.c=c at hcc hcp;constructor
  ·refine A99.1 fun hl=>?_;have:=A2f (a:=-x) (b:=c-1) (by grind) (by grind);grind
  ·refine A99.1 fun hl=>?_;have:=A2f (a:=x) (b:=c-1) (by grind) (by grind);grind
 intro e he;unfold Ak at he;rcases A02.1 he with rfl|he
 ·exact hnn
 ·obtain⟨q,hq,rfl⟩:=A0u.1 he;have:=hbp q hq;constructor<;>grind
end
end
section
variable {q r:Rat}
def IsZ (q:Rat):Prop:=∃ z:Int,q=z
theorem IsZ.add :IsZ q->IsZ r->IsZ (q+r):=fun⟨a,e⟩ ⟨b,f⟩=>⟨a+b,by rw[e,f,A48]⟩
theorem IsZ.sub :IsZ q->IsZ r->IsZ (q-r):=fun⟨a,e⟩ ⟨b,f⟩=>⟨a-b,by rw[e,f,Bbw]⟩
theorem IsZ.mul :IsZ q->IsZ r->IsZ (q*r):=fun⟨a,e⟩ ⟨b,f⟩=>⟨a*b,by rw[e,f,A23]⟩
theorem IsZ.nat (n:Nat):IsZ (n:Rat):=⟨n,(A2j n).symm⟩
theorem IsZ.sum {α:Type}{f:α->Rat}:∀ {l:List α},(∀ a∈l,IsZ (f a))->IsZ (Au f l)
 |[],_=>⟨0,rfl⟩
 |a::l,h=>(h a (A3r ..)).add (IsZ.sum fun x hx=>h x (A1w _ hx))
theorem G5.z {N:Nat}{q:Rat}(h:Dn 2 N q):IsZ (q*144):=by
 obtain⟨z,h1,_⟩:=h;exact⟨z,by rw[<-h1];congr 1⟩
theorem Amy {D m a b:Nat}(h0:0<D)(hD:D<10^b)(hz:IsZ (q*(D:Rat)))(hm:-(m:Rat)<=q/\q<=m)(ha:m*10^b<10^a):De a b q:=by
 obtain⟨z,e⟩:=hz;refine⟨z,D,e,h0,?_,hD⟩;have hd:(0:Rat)<=(D:Rat):=(A5k (a:=0) (b:=D)).2 (A1m _);have h1:(z:Rat)<=(((m*D:Nat):Int):Rat):=by
  rw[A2j,A6b,<-e];have:=A2f (a:=(m:Rat)-q) (b:=(D:Rat)) (by grind) hd;grind
 have h2:((-((m*D:Nat):Int):Int):Rat)<=(z:Rat):=by
  rw[A6x,A2j,A6b,<-e];have:=A2f (a:=q+(m:Rat)) (b:=(D:Rat)) (by grind) hd;grind
 have h1:=A3t.1 h1;have h2:=A3t.1 h2;have h3:m*D<=m*10^b:=Nat.mul_le_mul_left _ (Nat.le_of_lt hD);omega
section
variable {P:List Par} {C:CF} {b:Option Par->Rat} {k:Rat} {N D:Nat}
theorem Ao6 (hD0:0<D)(hD:D<10^103)(hz:∀ e∈Ak P,∃ z:Int,b e*(D:Rat)=z)(hm:∀ e∈Ak P,-20000000<=b e/\b e<=20000000):∀ e∈Ak P,De 111 103 (b e):=fun e he =>
 Amy (m:=20000000) hD0 hD (hz e he) (hm e he) jV
theorem Ap4 (hc:G5 N C)(hz:∀ e∈Ak P,∃ z:Int,b e*(D:Rat)=z):IsZ (sqC b P C*((D*D*144:Nat):Rat)):=by
 have e1:((D*D*144:Nat):Rat)=(D:Rat)*(D:Rat)*144:=by rw[A6b,A6b];rfl
 have hn:IsZ (Bm b P C*((D:Rat)*(D:Rat)*144)):=by
  unfold Bm;rw[<-Ej];refine IsZ.sum fun e he=>?_;rw[<-Ej];refine IsZ.sum fun f hf=>?_;rw[show b e*As C e f*b f*((D:Rat)*(D:Rat)*144)=(b e*(D:Rat))*(As C e f*144)*(b f*(D:Rat)) by grind];exact (IsZ.mul (hz e he) (G5.z (hc.c e f))).mul (hz f hf)
 have hr:IsZ (Au (fun e=>b e*Ay C e) (Ak P)*((D:Rat)*(D:Rat)*144)):=by
  rw[<-Ej];refine IsZ.sum fun e he=>?_;rw[show b e*Ay C e*((D:Rat)*(D:Rat)*144)=(b e*(D:Rat))*(Ay C e*144)*(D:Rat) by grind];exact (IsZ.mul (hz e he) (G5.z (hc.r e))).mul (IsZ.nat D)
 have ht:IsZ (C.t (Ap Aq Aq)*((D:Rat)*(D:Rat)*144)):=by
  rw[show C.t (Ap Aq Aq)*((D:Rat)*(D:Rat)*144)=(C.t (Ap Aq Aq)*144)*((D:Rat)*(D:Rat)) by grind];exact (G5.z hc.l).mul ((IsZ.nat D).mul (IsZ.nat D))
 rw[e1];unfold sqC;rw[show (Bm b P C+C.t (Ap Aq Aq)-2*Au (fun e=>b e*Ay C e) (Ak P))*((D:Rat)*(D:Rat)*144)=Bm b P C*((D:Rat)*(D:Rat)*144)+C.t (Ap Aq Aq)*((D:Rat)*(D:Rat)*144)-(Au (fun e=>b e*Ay C e) (Ak P)*((D:Rat)*(D:Rat)*144)+Au (fun e=>b e*Ay C e) (Ak P)*((D:Rat)*(D:Rat)*144)) by grind];exact (hn.add ht).sub (hr.add hr)
end
end
section
variable {k:Nat}{s:Src}{ts:List Int}{u:PH}
theorem Ajg {v:Value}{L:List (List UInt8)}(h:Aq7 u s ts)(hk:k<=s.n)(hL:Ab u v 1 (L.map nmV))(hn0:0<L.length)(hn2:L.length<=1000000) :
 Ai prog 50 [s.ptr,v] u (s.M k) fun v _ m'=>∃ t∈L,∃ k':Nat,v=.string (mkS t)/\k'<=s.n/\m'=s.M k':=by
 obtain⟨a,c,rfl⟩:=hL.opn;rw[A0p]at hL⊢;refine Ai.o func50 ?_;refine G.A call73 (Ia h hk hn0 hn2) ?_;rintro v1 u1 m1 l1 ⟨r,k',rfl,hr,hk',rfl⟩ _;rw[C2];obtain⟨b,off,rfl,e⟩:=Ab.at' (hL.mono l1) (j:=r) (e:=.string (mkS L[r])) (by simp[nmV,A0n hr]);refine G.a b off L.length c r 1 hr ?_;refine G.lU none b (off+r*1) (.string (mkS L[r])) e ?_;exact G.r _ ⟨L[r],A04 hr,k',rfl,hk',rfl⟩
structure Kl (q:Rat):Prop where
 pos:0<q
 thirty:∃ p:Int,q*30=p/\p.natAbs<=90
 tx:Tx q
theorem Ak0:∀ t∈[[49],[49,47,50],[51],[49,47,49,48],[55,47,51]],∃ q:Rat,t=Af q/\Kl q:=by
 intro t ht;simp only[A02,List.not_mem_nil,or_false]at ht;rcases ht with rfl|rfl|rfl|rfl|rfl
 ·exact⟨1,jV,jV,⟨30,jV,fV⟩,jV,jV⟩
 ·exact⟨1/2,jV,jV,⟨15,jV,fV⟩,jV,jV⟩
 ·exact⟨3,jV,jV,⟨90,jV,fV⟩,jV,jV⟩
 ·exact⟨1/10,jV,jV,⟨3,jV,fV⟩,jV,jV⟩
 ·exact⟨7/3,jV,jV,⟨70,jV,fV⟩,jV,jV⟩
theorem Y7 (h:Aq7 u s ts)(hk:k<=s.n) :
 Ai prog 12 [s.ptr] u (s.M k) fun v _ m'=>∃ (q:Rat) (k':Nat),v=.string (mkS (Af q))/\Kl q/\k'<=s.n/\m'=s.M k':=by
 refine Ai.o func12 ?_;refine G.B 9 1 16 (.string (mkS [])) ([[49],[49,47,50],[51],[49,47,49,48],[55,47,51]].map nmV) (G4 _) ?_;intro g u1 l1 e1;refine G.A call50 (Ajg (L:=[[49],[49,47,50],[51],[49,47,49,48],[55,47,51]]) (h.mono l1) hk e1.listP mV mV) ?_;rintro v2 u2 m2 l2 ⟨t,ht,k',rfl,hk',rfl⟩ _;rw[C2];obtain⟨q,rfl,hq⟩:=Ak0 t ht;exact G.r (.string (mkS (Af q))) ⟨q,k',rfl,hq,hk',rfl⟩
end
section
theorem Aj5 {u:PH}{pv:Value}{P:List Par}(h:Ab u pv 2 (P.map An))(hs:Ef A8 P)(hl:P.length<=1000000):Fn0 prog 91 [pv] u fun r _=>r=.bool true:=by
 obtain⟨a,c,rfl⟩:=h.opn;rw[A0p]at h⊢;refine Fn0.o func91 ?_;refine G.l (ι:=Nat) (fun i=>[(0,sV a P.length c),(3,iV i)]) (fun _=>[])
  (fun i u' m'=>1<=i/\m'=PH.mt) (fun i=>P.length-i) 1 ⟨oV,rfl⟩ ?_
 rintro J i hJ u2 m2 l2 ⟨hi,rfl⟩;by_cases hlt:i<P.length
 ·refine G.lT (i:Int) (P.length:Int) ?_;have hQi:P[i]?=some P[i]:=A0n hlt;have hQj:P[i-1]?=some (P[i-1]'oV):=A0n oV;have hcm:A8 (P[i-1]'oV) P[i]<0:=A3q.1 hs (i-1) i oV hlt oV;obtain⟨ba,oa,e0,ea⟩:=Ab.at' (h.mono l2) (j:=i) (e:=An P[i]) (by simp[hQi]);obtain⟨ba',oa',e0',eb⟩:=Ab.at' (h.mono l2) (j:=i-1) (e:=An (P[i-1]'oV)) (by simp[hQj]);rw[e0]at e0';cases e0';subst e0;refine G.s (i:Int) 1 ((i-1:Nat):Int) ?_;refine G.a ba oa P.length c (i-1) 2 oV ?_;refine G.lU (some 2) ba (oa+(i-1)*2) (An (P[i-1]'oV)) eb ?_;refine G.a ba oa P.length c i 2 hlt ?_;refine G.lU (some 2) ba (oa+i*2) (An P[i]) ea ?_;refine G.c call93 (Dq _ _ true (decide_eq_true hcm)) ?_;rintro v3 u3 l3 rfl;refine G.i i ?_;exact G.b (hJ (i+1) _ _ _ cV (l2.trans l3) ⟨oV,rfl⟩ oV)
 ·refine G.lF (i:Int) (P.length:Int) ?_;exact G.r (.bool true) ⟨rfl,rfl⟩
end
section
variable {m m0:PH}
def E8 (r:Value×List Value):Arr:=⟨r.1,33,1,r.2⟩
def oT (v:Value)(rows:List (Value×List Value)):Arr:=⟨v,84,1,rows.map (·.1)⟩
theorem Mb {r:Value×List Value}:(E8 r).At m0 m=Ae m0 m r.1 33 1 r.2:=rfl
theorem Amu {v:Value}{rows:List (Value×List Value)}:(oT v rows).At m0 m=Ae m0 m v 84 1 (rows.map (·.1)):=rfl
def txV (l:List Rat):List Value:=l.map fun q=>.string (mkS (Af q))
theorem Fu (l:List Rat):(txV l).length=l.length:=by simp[txV]
theorem Sl (l:List Rat)(q:Rat):txV l++[.string (mkS (Af q))]=txV (l++[q]):=by simp[txV]
theorem Jp (q:Rat):A3 1 [.string (mkS (Af q))]:=Cu [Af q]
theorem Zk (l:List Rat):txV l=Cs (l.map Af):=by simp[txV,Cs]
def M8 (C:CF)(P:List Par):List (List Rat):=(Ak P).map fun e=>(Ak P).map (As C e)
theorem Hg {P:List Par}{i:Nat}:(Ak P).take (i+1)=none::(P.take i).map some:=by unfold Ak;rw[List.take_succ_cons,List.map_take]
end
section
variable {X:List (List Rat)}{c i n:Nat}{m:PH}{rows:List (Value×List Value)}{s:Arr}{v:Value}
theorem N0 {s o:Arr}{r:Value×List Value}(h:rows[i]?=some r):(s::o::rows.map E8)[i+2]?=some (E8 r):=by simp[h]
theorem Aoe {x:Value}{es es':List Value}(h:rows[i]?=some (x,es)):oT v (rows.set i (x,es'))=oT v rows:=by
 unfold oT
 congr 1
 rw[A27];exact Ti (by rw[A0v,h];rfl)
theorem Ap3 {g n c i:Nat}(hbag:Bag m (s::oT (.slice (some ⟨g,0,none⟩) n c) rows::rows.map E8))(hr:rows.map (·.2)=X.map txV)(hX:Rec n n X)(hi:i<n) :
 ∃ gi ci,rows[i]?=some (.slice (some ⟨gi,0,none⟩) n ci,txV (gM X i))/\ElP m g (0+i*1) (.slice (some ⟨gi,0,none⟩) n ci)/\∀ j,j<n->ElP m gi (0+j*1) (.string (mkS (Af (gR (gM X i) j)))):=by
 have hrl:rows.length=n:=by have:=congrArg A35 hr;simpa[hX.1] using this
 have hri:rows[i]?=some rows[i]:=A0n oV;obtain⟨⟨vi,ei⟩,he⟩:∃ x,rows[i]=x:=⟨_,rfl⟩;rw[he]at hri;have hei:ei=txV (gM X i):=by
  have h1:(rows.map (·.2))[i]?=some ei:=by rw[A0v,hri];rfl
  have hxi:i<X.length:=by rw[hX.1];exact hi
  rw[hr,A0v,A0n hxi]at h1;rw[N6 hxi];simpa using h1.symm
 subst hei;have hel:(txV (gM X i)).length=n:=by rw[Fu,hX.2 i hi]
 obtain⟨gi,ci,e⟩:=hbag.ptr (i+2) (N0 hri) (by intro e;simp only[E8]at e;rw[e]at hel;simp at hel;omega);simp only[E8]at e;rw[hel]at e;subst e;refine⟨gi,ci,hri,hbag.el 1 (x:=oT _ rows) rfl rfl (by show (rows.map (·.1))[i]?=_;rw[A0v,hri];rfl),fun j hj=>?_⟩;have hjl:j<(gM X i).length:=by rw[hX.2 i hi];exact hj
 exact hbag.el (i+2) (x:=E8 _) (N0 hri) rfl (by show (txV (gM X i))[j]?=_;unfold txV;rw[A0v,A0n hjl,Mj hjl];rfl)
theorem Aku {m u:PH}{v:Value}{a:Option Addr}(hbag:Bag m (s::oT (.slice a n c) rows::rows.map E8))(hr:rows.map (·.2)=X.map txV)(hm:PH.le m u):N7 u (.slice a n c) (Jx X):=by
 obtain⟨m0,h0,_⟩:=hbag.focus 1 rfl;have hrl:rows.length=X.length:=by have:=congrArg A35 hr;simpa using this
 rw[Amu]at h0;refine⟨rows.map (·.1),h0.list hm,by simp[Jx,hrl],fun j r hj=>?_⟩;unfold Jx at hj;rw[A0v]at hj;cases hx:X[j]? with
 |none=>rw[hx]at hj;cases hj
 |some x =>
  rw[hx]at hj;simp only[A3h,A0t]at hj;subst hj;obtain⟨hjl,_⟩:=A0s.1 hx;have hri:rows[j]?=some rows[j]:=A0n oV;obtain⟨⟨vi,ei⟩,he⟩:∃ x,rows[j]=x:=⟨_,rfl⟩;rw[he]at hri;have hei:ei=txV x:=by
   have h1:(rows.map (·.2))[j]?=some ei:=by rw[A0v,hri];rfl
   rw[hr,A0v,hx]at h1;simpa using h1.symm
  subst hei;obtain⟨m1,h1,_⟩:=hbag.focus (j+2) (N0 hri);rw[Mb]at h1;obtain⟨a1,c1,e1⟩:=h1.shape;simp only at e1;subst e1;have h2:=h1.list hm;simp only[Fu]at h2;refine⟨a1,c1,by rw[A0v,hri];simp[Fu],?_⟩;rw[A0p];unfold Fe;rw[<-Zk];exact h2
def Gl (q:Rat)(X:List (List Rat)):Nat->List (List Rat)
 |0=>X
 |1=>X
 |i+2=>(Gl q X (i+1)).set (i+1) ((gM (Gl q X (i+1)) (i+1)).set (i+1) (gR (gM (Gl q X (i+1)) (i+1)) (i+1)+q))
theorem Asg {q:Rat}{X:List (List Rat)}{n:Nat}(hX:Rec n n X):∀ i,i<=n->Rec n n (Gl q X i)
 |0,_=>hX
 |1,_=>hX
 |i+2,h=>by
  have ih:=Asg hX (q:=q) (i+1) oV;exact Ib ih oV (by rw[A3u,ih.2 (i+1) oV])
theorem Xd {q:Rat}{X:List (List Rat)}{n:Nat}(hX:Rec n n X):∀ i,i<=n->∀ a b,a<n->b<n->en (Gl q X i) a b=en X a b+if a=b/\0<a/\a<i then q else 0
 |0,_,a,b,_,_=>by rw[if_neg oV];show en X a b=en X a b+0;grind
 |1,_,a,b,_,_=>by rw[if_neg oV];show en X a b=en X a b+0;grind
 |i+2,h,a,b,ha,hb=>by
  have ih:=Xd hX (q:=q) (i+1) oV a b ha hb;have hr:=Asg hX (q:=q) (i+1) oV;have hl:i+1<(gM (Gl q X (i+1)) (i+1)).length:=by rw[hr.2 (i+1) oV];omega
  show gR (gM ((Gl q X (i+1)).set (i+1) _) a) b=_;rw[Ka (by rw[hr.1];omega)];by_cases e1:i+1=a
  ·rw[if_pos e1,Aoj hl];by_cases e2:i+1=b
   ·subst e1;subst e2;rw[if_pos rfl,if_pos ⟨rfl,oV,oV⟩];rw[if_neg oV]at ih;show en (Gl q X (i+1)) (i+1) (i+1)+q=_;rw[ih];grind
   ·subst e1;rw[if_neg e2,if_neg oV];rw[if_neg oV]at ih;exact ih
  ·rw[if_neg e1];show en (Gl q X (i+1)) a b=_;rw[ih];by_cases e3:a=b/\0<a/\a<i+1
   ·rw[if_pos e3,if_pos oV]
   ·rw[if_neg e3,if_neg oV]
theorem Anc {r:List Rat}(h:X[i]?=some r):gM X i=r:=by unfold gM;rw[A0o,h];rfl
theorem Ads {l:List Rat}{r:Rat}(h:l[i]?=some r):gR l i=r:=by unfold gR;rw[A0o,h];rfl
theorem Adz (C:CF)(P:List Par)(hi:i<P.length+1):gM (M8 C P) i=(Ak P).map (As C ((Ak P).getD i none)):=by
 have hi':i<(Ak P).length:=by rw[Bo];exact hi
 refine Anc ?_;unfold M8;rw[A0v,A0n hi',A0o,A0n hi'];rfl
theorem Rt (C:CF)(P:List Par):Rec (P.length+1) (P.length+1) (M8 C P) :=
 ⟨by unfold M8;rw[A0p,Bo],fun i hi=>by rw[Adz C P hi,A0p,Bo]⟩
theorem Adr (C:CF)(P:List Par){i j:Nat}(hi:i<P.length+1)(hj:j<P.length+1):en (M8 C P) i j=As C ((Ak P).getD i none) ((Ak P).getD j none):=by
 have hj':j<(Ak P).length:=by rw[Bo];exact hj
 unfold en;rw[Adz C P hi];refine Ads ?_;rw[A0v,A0o (l:=Ak P) (i:=j),A0n hj'];rfl
theorem Kl.de {q:Rat}(h:Kl q):De 2 2 q:=by
 obtain⟨p,h1,h2⟩:=h.thirty;exact⟨p,30,h1,oV,oV,oV⟩
end
section
structure Tq (q:Rat):Prop where
 tx:Tx q
 den:q.den ∣ 4320
 num:q.num.natAbs<=15000000
theorem nlM {n:Nat}(h:n<1000000000000000000):nl n<=2:=A4 (by simpa using h)
end
section
def Abv (n:Nat)(X:List (List Rat))(y:Nat->Rat):Prop:=∀ i,i<n->Dm n (fun j=>en X i j*y j)=en X i n
end
section
variable {A:List (List Rat)}{b l:List Rat}{i j:Nat}{q:Rat}
theorem Apn {m0 m:PH}{v:Value}{t:TypeId}{sz:Nat}{es:List Value}(h:Ae m0 m v t sz es):PH.le m0 m:=by
 rcases h.2 with ⟨_,_,rfl⟩|⟨g,cap,rest,hg0,rfl,_⟩
 ·exact PH.le_refl _
 ·exact Jw _ hg0
def Nh (A:List (List Rat))(b:List Rat):List (List Rat):=(A1q A.length).map fun i=>gM A i++[gR b i]
theorem V8 (h:i<A.length):gM (Nh A b) i=gM A i++[gR b i]:=by
 unfold Nh;rw[Anc (r:=gM A i++[gR b i])];rw[A0v,A52 h];rfl
theorem Aof (h:j<l.length):gR (l++[q]) j=gR l j:=by
 unfold gR;rw[A0o,A0o,A1d h]
theorem Al1 (h:j=l.length):gR (l++[q]) j=q:=by
 subst h;unfold gR;rw[A0o,A1s (A0w _)];simp
theorem Ahx (hs:Sq A)(hi:i<A.length)(hj:j<A.length):en (Nh A b) i j=en A i j:=by
 unfold en;rw[V8 hi,Aof (by rw[N6 hi,hs.len hi];exact hj)]
theorem Anf (hs:Sq A)(hi:i<A.length):en (Nh A b) i A.length=gR b i:=by
 unfold en;rw[V8 hi,Al1 (by rw[N6 hi,hs.len hi])]
end
section
variable {S:List (List Int)}{i j:Nat}{l:List Int}{q v:Int}
theorem Aun {q:Rat}{D:Nat}(h:q.den ∣ D):((q.num*((D/q.den:Nat):Int):Int):Rat)=q*(D:Rat):=by
 obtain⟨k,rfl⟩:=h;rw[Nat.mul_div_cancel_left _ q.den_pos,A23,A6b,A2j];have h2:q*(q.den:Rat)=(q.num:Rat):=by
  have h2:q=(q.num:Rat)/(((q.den:Int)):Rat):=by rw[<-A4h,A66]
  have hi:=A8u _ (Pr q.den_pos);rw[A2j,A7l]at h2;exact Aqa h2 hi
 rw[<-h2];grind
theorem Aul {D:Nat}{r:List Rat}(hj:j<r.length):gZ (Q4 D r) j=(gR r j).num*((D/(gR r j).den:Nat):Int):=by
 unfold Q4;rw[Atp (by simpa using hj),A4r,Mj hj]
theorem Ax9 (h:j<l.length):gZ (l++[q]) j=gZ l j:=by
 unfold gZ;rw[A0o,A1d h,A0o]
theorem Avt (h:j=l.length):gZ (l++[q]) j=q:=by
 subst h;unfold gZ;simp[A0o]
def Aq8 (A:List (List Rat))(b:List Rat)(D D':Nat):List (List Int):=(A1q A.length).map fun i=>Q4 D (gM A i)++[(gR b i).num*((D' / (gR b i).den:Nat):Int)]
theorem Ase {A:List (List Rat)}{b:List Rat}{D D' i:Nat}(h:i<A.length):gMZ (Aq8 A b D D') i=Q4 D (gM A i)++[(gR b i).num*((D' / (gR b i).den:Nat):Int)]:=by
 unfold Aq8;rw[Ar7 (by simpa using h)];simp
theorem Axq {A:List (List Rat)}{b:List Rat}{D D':Nat}(hs:Sq A):Aqv A.length (A.length+1) (Aq8 A b D D') :=
 ⟨by simp[Aq8],fun i hi=>by rw[Ase hi,A0z,Q4,A0p,N6 hi,hs.len hi];rfl⟩
structure Axr (A:List (List Rat))(b:List Rat)(D D':Nat):Prop where
 d0:0<D
 d1:0<D'
 a:∀ r∈A,∀ q∈r,q.den ∣ D
 b:∀ q∈b,q.den ∣ D'
theorem Ax7 {A:List (List Rat)}(h:i<A.length):gM A i∈A:=by rw[N6 h];exact A04 h
section
variable {A:List (List Rat)} {b:List Rat} {D D':Nat}
theorem Av6 (hs:Sq A)(h:Axr A b D D')(hi:i<A.length)(hj:j<A.length):(enZ (Aq8 A b D D') i j:Rat)=en A i j*(D:Rat):=by
 have hl:(gM A i).length=A.length:=by rw[N6 hi];exact hs.len hi
 unfold enZ;rw[Ase hi,Ax9 (by simp[Q4,hl,hj]),Aul oV];exact Aun (h.a _ (Ax7 hi) _ (At3 oV))
theorem Azl (hs:Sq A)(hbl:b.length=A.length)(h:Axr A b D D')(hi:i<A.length):(enZ (Aq8 A b D D') i A.length:Rat)=gR b i*(D':Rat):=by
 have hl:(gM A i).length=A.length:=by rw[N6 hi];exact hs.len hi
 unfold enZ;rw[Ase hi,Avt (by simp[Q4,hl])];exact Aun (h.b _ (At3 oV))
theorem Ata (f:Nat->Int):∀ n:Nat,((Aqe n f:Int):Rat)=Dm n (fun j=>(f j:Rat))
 |0=>by rw[Pb];rfl
 |n+1=>by rw[Aqe,A48,Ata f n,F0]
def qsZ (n:Nat)(S:List (List Int))(v:Int)(D D':Nat):List Rat:=(A1q n).map fun j=>A2m (enZ S j n*(D:Int)) (v*(D':Int))
theorem Aw5 {n:Nat}(hj:j<n):gR (qsZ n S v D D') j=A2m (enZ S j n*(D:Int)) (v*(D':Int)):=by
 unfold qsZ;exact Anj _ hj
theorem Ayh (hs:Sq A)(hbl:b.length=A.length)(h:Axr A b D D')(hv:v≠0)(hS:∀ i,i<A.length->∀ k,Aqe A.length (fun j=>enZ S j k*enZ (Aq8 A b D D') i j)=v*enZ (Aq8 A b D D') i k) :
 Abv A.length (Nh A b) (gR (qsZ A.length S v D D')):=by
 intro i hi;have e:=congrArg (fun z:Int=>(z:Rat)) (hS i hi A.length);simp only[Ata,A23]at e;rw[Azl hs hbl h hi]at e;rw[Anf hs hi];have hv':(v:Rat)≠0:=fun e=>hv (Bbx.1 (by rw[e];rfl));have hd':(D':Rat)≠0:=Pr (by have:=h.d1;omega);have e2:Dm A.length (fun j=>en (Nh A b) i j*gR (qsZ A.length S v D D') j)=Dm A.length (fun j=>(enZ S j A.length:Rat)*(enZ (Aq8 A b D D') i j:Rat))*((1/((v:Rat)*(D':Rat)))):=by
  rw[Rat.mul_comm,<-Nr];refine Er fun j hj=>?_;rw[Ahx hs hi hj,Aw5 hj,Av6 hs h hi hj,A4h,A23,A23,A2j,A2j,A7l,A7l];grind
 rw[e2,e];have:(v:Rat)*(D':Rat)≠0:=fun e=>(A6c.1 e).elim hv' hd';rw[A7l,Rat.one_mul];generalize hw:(v:Rat)*(D':Rat)=w at *
 have e3:(v:Rat)*(gR b i*(D':Rat))=gR b i*w:=by rw[<-hw];grind
 rw[e3,Rat.mul_assoc,A8u _ this,Rat.mul_one]
theorem Az3 (hs:Sq A)(h:Axr A b D D')(hk:∀ y:Nat->Rat,(∀ i,i<A.length->Dm A.length (fun j=>en A i j*y j)=0)->∀ j,j<A.length->y j=0):¬ Ker A.length (enZ (Aq8 A b D D')):=by
 rintro⟨y,⟨j,hj,hy⟩,h0⟩;have hd:(D:Rat)≠0:=Pr (by have:=h.d0;omega);refine hy ?_;have:=hk (fun j=>(y j:Rat)) (fun i hi=>?_) j hj
 ·exact Bbx.1 (by rw[this];rfl)
 ·have e:=congrArg (fun z:Int=>(z:Rat)) (h0 i hi);simp only[Ata,A23]at e;have e2:Dm A.length (fun j=>(y j:Rat)*(enZ (Aq8 A b D D') i j:Rat))=(D:Rat)*Dm A.length (fun j=>en A i j*(y j:Rat)):=by
   rw[<-Nr];exact Er fun j hj=>by rw[Av6 hs h hi hj];grind
  rw[e2]at e;rcases A6c.1 e with e|e
  ·exact absurd e hd
  ·exact e
end
end
section
variable {i j:Nat}{qs:List Rat}{z:Int}
theorem Ag7 {q:Rat}{D:Nat}(h:q*(D:Rat)=(z:Rat))(h0:0<D):q.den ∣ D/\q.num.natAbs<=z.natAbs:=by
 have hq:q=A2m z (D:Int):=by
  rw[A4h,A2j,<-h];have:=Pr h0;grind
 obtain⟨e1,e2,e3⟩:=Ju (y:=z) (z:=(D:Int)) oV;rw[hq];constructor
 ·have h2:((A2m z (D:Int)).den:Int)=((D/Nat.gcd z.natAbs D:Nat):Int):=by
   rw[e2,show ((D:Int)).natAbs=D from rfl,Int.tdiv_eq_ediv_of_nonneg oV,<-Int.natCast_ediv]
  rw[Int.ofNat.inj h2];exact Nat.div_dvd_of_dvd (Nat.gcd_dvd_right _ _)
 ·rw[e1,Int.natAbs_tdiv];exact A3v _ _
theorem Apw {q:Rat}(h:q*((4320:Nat):Rat)=(z:Rat))(hz:z.natAbs<=15000000):Tq q:=by
 obtain⟨h1,h2⟩:=Ag7 h oV;exact⟨De.tx (a:=8) (b:=4) ⟨z,4320,h,oV,oV,oV⟩ oV oV oV oV,h1,oV⟩
theorem Am6 {x t:Rat}{N:Nat}(h:Dn 2 N x)(hN:N<=489888)(ht:∃ p:Int,t*30=p/\p.natAbs<=90):Tq (x+t):=by
 obtain⟨z,h1,h2⟩:=h;obtain⟨p,h3,h4⟩:=ht;refine Apw (z:=z*30+p*144) ?_ oV;have e:((12^2:Nat):Rat)=144:=jV
 have e2:((4320:Nat):Rat)=4320:=jV
 have e3:((30:Int):Rat)=30:=jV
 have e4:((144:Int):Rat)=144:=jV
 rw[e]at h1;rw[A48,A23,A23,<-h1,<-h3,e2,e3,e4];grind
section
variable {P:List Par} {C:CF} {q:Rat} {N:Nat}
def Pu (C:CF)(P:List Par)(q:Rat):List (List Rat):=Gl q (M8 C P) (P.length+1)
def Y0 (C:CF)(P:List Par):List Rat:=(Ak P).map (Ay C)
theorem N4:Rec (P.length+1) (P.length+1) (Pu C P q):=Asg (Rt C P) _ (A0w _)
theorem Air (hi:i<P.length+1)(hj:j<P.length+1):en (Pu C P q) i j=As C ((Ak P).getD i none) ((Ak P).getD j none)+if i=j/\0<i then q else 0:=by
 unfold Pu;rw[Xd (Rt C P) _ (A0w _) i j hi hj,Adr C P hi hj];have:(if i=j/\0<i/\i<P.length+1 then q else 0)=if i=j/\0<i then q else 0:=by simp[hi]
 rw[this]
theorem Ah6:(Y0 C P).length=P.length+1:=by unfold Y0;rw[A0p,Bo]
theorem Aly (hi:i<P.length+1):gR (Y0 C P) i=Ay C ((Ak P).getD i none):=by
 have h1:=Bo P;refine Ads ?_;unfold Y0;rw[A0v,A0o,A0n oV];rfl
theorem Aix (hcd:G5 N C)(hN:N<=489888)(hq:Kl q):∀ r∈Pu C P q,∀ x∈r,Tq x:=by
 intro r hr x hx;have hA:=N4 (P:=P) (C:=C) (q:=q);obtain⟨i,hi,rfl⟩:=A2u.1 hr;obtain⟨j,hj,rfl⟩:=A2u.1 hx;have hi':i<P.length+1:=by have:=hA.1;omega
 have hj':j<P.length+1:=by have:=hA.2 i hi';rw[N6 hi]at this;omega
 have e:=Air (P:=P) (C:=C) (q:=q) hi' hj';unfold en at e;rw[N6 hi,Mj hj]at e;rw[e];refine Am6 (hcd.c _ _) hN ?_;split
 ·exact hq.thirty
 ·exact⟨0,jV,fV⟩
theorem Ahf (hcd:G5 N C)(hN:N<=489888)(hq:Kl q)(hP:P.length<=11):Sq (Pu C P q):=by
 have hA:=N4 (P:=P) (C:=C) (q:=q);refine⟨by rw[hA.1];omega,fun r hr=>?_,fun r hr x hx=>(Aix hcd hN hq r hr x hx).tx⟩;obtain⟨i,hi,rfl⟩:=A2u.1 hr;have:=hA.2 i (by have:=hA.1;omega);rw[N6 hi]at this;rw[this,hA.1]
theorem Qb {y:Nat->Rat}{bE:Option Par->Rat}(hs:Sq (Pu C P q))(h:Abv (Pu C P q).length (Nh (Pu C P q) (Y0 C P)) y)(hb:∀ j,j<P.length+1->bE ((Ak P).getD j none)=y j):Fv P C q bE:=by
 have hA:=N4 (P:=P) (C:=C) (q:=q);intro e he;obtain⟨i,hi,rfl⟩:=A2u.1 he;have hei:(Ak P)[i]=(Ak P).getD i none:=by rw[A0o,A0n hi];rfl
 rw[hei];rw[Bo]at hi;have hiA:i<(Pu C P q).length:=by rw[hA.1];exact hi
 have h1:=h i hiA;rw[Anf hs hiA,Aly hi,Er (g:=fun j=>As C ((Ak P).getD i none) ((Ak P).getD j none)*bE ((Ak P).getD j none)+(if i=j/\0<i then q else 0)*y j) (fun j hj=>by
  have hj':j<P.length+1:=by have:=hA.1;omega
  rw[Ahx hs hiA hj,Air hi hj',hb j hj'];grind),hA.1,Y4,Aac]at h1
 have hpen:Kp q bE ((Ak P).getD i none)=if i<P.length+1/\0<i then q*y i else 0:=by
  cases i with
  |zero=>rw[if_neg oV];rfl
  |succ j =>
   rw[if_pos ⟨hi,oV⟩,<-hb _ hi];unfold Ak;rw[A5b,A0o,A0v,A0n oV];rfl
 rw[R3 _ (Ak P) none,Bo,hpen];exact h1
theorem Aeq (hP:P.Nodup)(hl:qs.length=P.length)(hj:j<P.length):Bi P[j] (P.zip qs)=gR qs j:=by
 have hjq:j<qs.length:=oV
 rw[Mj hjq];refine F9 ?_ (A2u.2 ⟨j,gV,mV⟩);have e:(P.zip qs).map (·.1)=P:=List.map_fst_zip oV;rw[e];exact hP
theorem Ag6 (hP:P.Nodup){m0:Rat}(hl:qs.length=P.length):∀ j,j<P.length+1->cfE m0 (P.zip qs) ((Ak P).getD j none)=gR (m0::qs) j:=by
 intro j hj;cases j with
 |zero=>rfl
 |succ j =>
  unfold Ak;rw[A5b,A0o,A0v,A0n oV];show Bi P[j] (P.zip qs)=gR (m0::qs) (j+1);rw[Aeq hP hl oV];rfl
theorem Akj (hi:i<P.length+1):(Ak P).getD i none∈Ak P:=by
 have:=Bo P;rw[A0o,A0n oV];exact A04 _
theorem Ac7 {b:Option Par->Rat}(hcd:G5 N C)(hN:N<=489888)(hq:Kl q)(hP:P.length<=11)(hcp:1<=C.c)(hpsd:∀ z,0<=Bm z P C)(hsq:∀ z,0<=sqC z P C)(h:Fv P C q b):∀ e∈Ak P,De 111 103 (b e):=by
 have hc0:0<C.c:=by
  have h1:(0:Rat)<1:=jV
  grind
 obtain⟨D,h0,h1,h2⟩:=Ady hcd hN hP hq.thirty hq.pos hc0 hpsd h;exact Ao6 h0 h1 h2 (Ali hcd hN hP hq.thirty hq.pos hcp hpsd (hsq b) h)
theorem Aot (hnd:P.Nodup)(hcd:G5 N C)(hN:N<=489888)(hq:Kl q)(hP:P.length<=11)(hcp:1<=C.c)(hpsd:∀ z,0<=Bm z P C)(hsq:∀ z,0<=sqC z P C)(y:Nat->Rat)(h:Abv (Pu C P q).length (Nh (Pu C P q) (Y0 C P)) y) :
 ∀ i,i<(Pu C P q).length->Tx (y i):=by
 intro i hi;have hA:=N4 (P:=P) (C:=C) (q:=q);have hi':i<P.length+1:=by have:=hA.1;omega
 have hb:∀ j,j<P.length+1->cfE (y 0) (P.zip ((A1q P.length).map fun j=>y (j+1))) ((Ak P).getD j none)=y j:=fun j hj=>by
  rw[Ag6 hnd mV j hj];cases j with
  |zero=>rfl
  |succ j=>exact Ads (by rw[List.getElem?_cons_succ,A0v,A52 oV];rfl)
 have hn:=Qb (Ahf hcd hN hq hP) h hb;have hd:=Ac7 hcd hN hq hP hcp hpsd hsq hn _ (Akj hi');rw[hb i hi']at hd;exact hd.tx oV oV oV oV
end
end
section
variable {A:List (List Rat)}{X Y:List (List Int)}{b:List Rat}{k n:Nat}{m u:PH}
theorem Aym {v:Value}(h:N7 u v (Jx A))(hs:Sq A):Fn0 prog 146 [v] u fun v' _=>v'=.int .i64 0:=by
 obtain⟨a,c,rfl⟩:=h.opn;refine Fn0.o func146 ?_;refine G.c call212 (Ayb h hs) ?_;rintro v1 u1 l1 rfl;refine G.eT' 0 0 rfl ?_;refine G.nF (A.length:Int) (A.length:Int) ?_;exact G.r (.int .i64 0) ⟨rfl,rfl⟩
structure Th (q:Rat):Prop where
 tx:Tx q
 den:q.den ∣ 4320
 num:q.num.natAbs<=30000000
theorem Ay4 (h:n<1000000000000):Lib.nDigits n<=12:=Ed (k:=12) oV oV
theorem Aus (hT:∀ r∈A,∀ q∈r,Th q):Az1 A 4320 12 where
 den:=fun r hr q hq=>(hT r hr q hq).den
 pos:=oV
 nl:=A0q (nlM oV) oV
 dig:=fun D hD h0=>by
  have hD2:D<=4320:=A5s oV hD;refine⟨Ay4 oV,fun r hr q hq hd=>Ay4 ?_⟩;rw[A30,A1z];have h1:=(hT r hr q hq).num;have h2:D/q.den<=4320:=A0q (A3v _ _) hD2;have:=A3j h1 h2;omega
theorem Azy (h:∀ q∈b,Th q):∀ r∈b.map (fun q=>[q]),∀ q∈r,Th q:=fun r hr q hq=>by
 obtain⟨x,hx,rfl⟩:=A0u.1 hr;simp at hq;subst hq;exact h q hx
theorem Awe :Jx (b.map fun q=>[q])=(b.map Af).map fun t=>[t]:=by simp[Jx]
theorem Ayg {D D':Nat}(hs:Sq A)(hbl:b.length=A.length)(hT:∀ r∈A,∀ q∈r,Th q)(hbT:∀ q∈b,Th q)(hD:D ∣ 4320)(hD':D' ∣ 4320):SzZ (Aq8 A b D D') 2:=fun i j=>by
 have key:∀ (q:Rat) (E:Nat),Th q->E ∣ 4320->nl (q.num*((E/q.den:Nat):Int)).natAbs<=2:=fun q E hq hE=>by
  refine nlM ?_;rw[A30,A1z];have h2:E/q.den<=4320:=A0q (A3v _ _) (A5s oV hE);have:=A3j hq.num h2;omega
 have z:nl (0:Int).natAbs<=2:=A0q (nl1 (n:=0) oV) oV;by_cases hi:i<A.length
 ·have hl:(gM A i).length=A.length:=by rw[N6 hi];exact hs.len hi
  unfold enZ;rw[Ase hi];by_cases hj:j<A.length
  ·rw[Ax9 (by simp[Q4,hl,hj]),Aul oV];exact key _ D (hT _ (Ax7 hi) _ (At3 oV)) hD
  ·by_cases hj2:j=A.length
   ·rw[Avt (by simp[Q4,hl,hj2])];exact key _ D' (hbT _ (At3 oV)) hD'
   ·rw[Aua (by simp[Q4,hl];omega)];exact z
 ·unfold enZ;have:gMZ (Aq8 A b D D') i = []:=by unfold gMZ;rw[A0o,List.getElem?_eq_none (by simp[Aq8];omega)];rfl
  rw[this];exact z
theorem Axa {n w E:Nat}:∀ (f c:Nat) (s:BZ),SzZ s.X (zs E c)->nl s.v.natAbs<=zs E c->Aqv n w s.X->s.P.length<=n->SzZ (Aq0 n f c s).X (zs E (c+f))/\nl (Aq0 n f c s).v.natAbs<=zs E (c+f)
 |0,c,s,h1,h2,_,_=>⟨h1,h2⟩
 |f+1,c,s,h1,h2,h3,h4=>by
  obtain⟨q1,q2,q3,q4,_⟩:=Av5 (c:=c) h1 h2 h3 h4;have hz:zs E (c+1)=2*zs E c+2:=rfl;have:=Axa (E:=E) f (c+1) (Aq1 n c s) (q1.mono oV) (A0q q2 oV) q3 q4;unfold Aq0;rw[show c+(f+1)=c+1+f by omega];exact this
theorem Az9 (h:n<=12):zs 2 n<=1000000000:=A0q (Ay8 2 h) fV
theorem Ayf {l:List Arr}(h:Bag m l):Bag m (Xz (.slice none 0 0) []::Xz (.slice none 0 0) []::l):=⟨m,Ae.nil _ _ _,m,Ae.nil _ _ _,h⟩
def Ate (Y X:List (List Int))(k:Nat):List (List Int):=Y.take k++X.drop k
theorem Ax0 (h:Y.length=X.length)(hk:k<X.length):(Ate Y X k).set k (gMZ Y k)=Ate Y X (k+1):=by
 unfold Ate;rw[A4k _ _ gV];simp only[A00];rw[show k-min k Y.length=0 by omega,List.drop_eq_getElem_cons hk,A2k,Mx oV,A1j,Ar7 oV];rfl
theorem Ayo (h:Y.length=X.length)(hk:k<X.length):gMZ (Ate Y X k) k=gMZ X k:=by
 unfold Ate gMZ;rw[A0o,A1s gV,A0o];simp only[A00];rw[show k-min k Y.length=0 by omega,List.getElem?_drop];rfl
theorem Axt (h:Y.length=k)(h2:X.length=k):Ate Y X k=Y:=by
 unfold Ate;rw[A03 oV,List.drop_of_length_le oV,List.append_nil]
theorem Awp {n c:Nat}{a:Option Addr}{rows:List (Value×List Value)}(hbag:Bag m (oN (.slice a n c) rows::rows.map Aqj))(hQ:NAt u rows X)(hm:PH.le m u):Arj u (.slice a n c) X:=Aub (Ayf hbag) hQ hm
theorem Azf {u:PH}{v bv:Value}{A:List (List Rat)}{b:List Rat}(ht:Lb u)(h:N7 u v (Jx A))(hb:Fe u bv (b.map Af))(hs:Sq A)(hbl:b.length=A.length)(h0:0<A.length)(hT:∀ r∈A,∀ q∈r,Th q)(hbT:∀ q∈b,Th q)
 (hk:∀ y:Nat->Rat,(∀ i,i<A.length->Dm A.length (fun j=>en A i j*y j)=0)->∀ j,j<A.length->y j=0) (hsol:∀ y:Nat->Rat,Abv A.length (Nh A b) y->∀ i,i<A.length->Tx (y i)) :
 Fn0 prog 69 [v,bv] u fun r u'=>∃ qs lv,r=.tuple #[lv,.int .i64 0]/\qs.length=A.length/\Abv A.length (Nh A b) (gR qs)/\Fe u' lv (qs.map Af):=by
 obtain⟨a0,c0,rfl⟩:=h.opn;rw[If]at h⊢;obtain⟨a1,c1,rfl⟩:=Ab.opn hb;have hbs:(Cs (b.map Af)).length=A.length:=by simp[Cs,hbl]
 rw[hbs]at hb⊢;have hle:=hs.le;have hTx:∀ r∈A,∀ q∈r,Tx q:=fun r hr q hq=>(hT r hr q hq).tx;have hLA:=Aus hT;have hCT:=Azy hbT;have hLB:=Aus hCT;have hcl:∀ r∈b.map (fun q=>[q]),r.length<=12:=fun r hr=>by obtain⟨x,_,rfl⟩:=A0u.1 hr;simp
 have hrl:∀ r∈A,r.length<=12:=fun r hr=>by rw[hs.row r hr];exact hle
 have hbm:(b.map (fun q=>[q])).length=A.length:=by rw[A0p,hbl]
 refine Fn0.o func69 ?_;refine G.c call146 (Aym h hs) ?_;rintro v1 u1 l1 rfl;refine G.nF 0 0 ?_;refine G.nF (A.length:Int) (A.length:Int) ?_;refine G.c call147 (Auz (Ab.mono hb l1) (fun q hq=>(hbT q hq).tx) oV) ?_;rintro v2 u2 l2 rfl;have le2:=l1.trans l2;refine G.c call148 (Axe (N:=12) (K:=12) (ht.mono le2) (h.mono le2) hTx hle hrl oV oV oV hLA.den hLA.pos hLA.nl hLA.dig) ?_;rintro v3 u3 l3 rfl;have le3:=le2.trans l3;refine G.c call149 (Awh (Ab.mono hb le3) (by rw[A0p];omega)) ?_;intro v4 u4 l4 k4;rw[<-Awe]at k4;have le4:=le3.trans l4;refine G.c call148 (Axe (N:=12) (K:=12) (ht.mono le4) k4 (fun r hr q hq=>(hCT r hr q hq).tx) oV hcl oV oV oV hLB.den hLB.pos hLB.nl hLB.dig) ?_;rintro v5 u5 l5 rfl;have le5:=le4.trans l5;refine G.callO _ _ kV call150 (Aya (h.mono le5) hTx oV (fun r hr=>by have:=hrl r hr;omega) hLA.den hLA.pos hLA.nl) ?_;rintro v6 u6 m6 l6 ⟨D,fD,a6,c6,rows6,hD0,hDL,hDd,rfl,hDn,hQ6,hbag6⟩ _;rw[C2];have le6:=le5.trans l6;refine G.c call149 (Awh (Ab.mono hb le6) (by rw[A0p];omega)) ?_;intro v7 u7 l7 k7;rw[<-Awe]at k7;have le7:=le6.trans l7;refine G.c call150 (Awc k7 (fun r hr q hq=>(hCT r hr q hq).tx) oV (fun r hr=>by have:=hcl r hr;omega) hLB.den hLB.pos hLB.nl) ?_;rintro v8 u8 l8 ⟨D',hD0',hDL',hDd',eb,ea,en',ec,ea',en2,ec',rfl,hDn',hR8⟩;have le8:=le7.trans l8;have hsys:Axr A b D D':=⟨hD0,hD0',hDd,fun q hq=>hDd' [q] (A0u.2 ⟨q,hq,rfl⟩) q mV⟩;obtain⟨_,_,e0⟩:=LP.opn hR8;rw[A0p,hbm]at e0;simp only[A09]at e0;obtain⟨rfl,rfl,rfl⟩:=e0;have hX6:Aqv A.length A.length (A.map (Q4 D)):=⟨mV,fun i hi=>by rw[Ar7 (by simpa using hi),A4r,Q4,A0p];exact hs.len hi⟩;have hXn:=Axq (b:=b) (D:=D) (D':=D') hs;have hrl6:rows6.length=A.length:=by rw[hQ6.1];simp
 obtain⟨go,co,eo⟩:=hbag6.ptr 0 rfl (by intro e;simp only[oN,List.map_eq_nil_iff]at e;rw[e]at hrl6;simp at hrl6;omega);simp only[oN,A0p,hrl6,A09,true_and]at eo;obtain⟨rfl,rfl⟩:=eo;refine G.l (ι:=Nat×List (Value×List Value)) (fun i=>[(0,sV a0 A.length c0),(7,.p 10005 0),(8,.p 10006 0),(44,iV A.length),(45,iV i.1)])
  (fun i=>[(10005,⟨218,[bV fD.b,sV fD.a fD.n fD.c,sV (some ⟨go,0,none⟩) A.length c6]⟩),(10006,⟨218,[bV eb,sV ea en' ec,sV ea' A.length ec']⟩)])
  (fun i u' m'=>i.1<=A.length/\NAt u' i.2 (Ate (Aq8 A b D D') (A.map (Q4 D)) i.1)/\Bag m' (oN (.slice (some ⟨go,0,none⟩) A.length c6) i.2::i.2.map Aqj)) (fun i=>A.length-i.1) (0,rows6)
  ⟨A1m _,(show NAt u8 rows6 (Ate (Aq8 A b D D') (A.map (Q4 D)) 0) by unfold Ate;simpa using hQ6.mono (l7.trans l8)),hbag6⟩ ?_
 clear hbag6 hQ6 hrl6;rintro J ⟨i,rows⟩ hJ u9 m9 l9 ⟨hi,hQ,hbag⟩;simp only at hi hQ hbag hJ;have hyl:(Aq8 A b D D').length=(A.map (Q4 D)).length:=by simp[Aq8]
 have hrl9:rows.length=A.length:=by rw[hQ.1];unfold Ate;simp[Aq8];omega
 have le9:=le8.trans l9;by_cases hlt:i<A.length
 ·refine G.lT (i:Int) (A.length:Int) ?_;have hri:rows[i]?=some rows[i]:=A0n oV;have hAt:=hQ.2 i _ hri;rw[Ayo hyl (by simpa using hlt),Ar7 (by simpa using hlt),A4r]at hAt;obtain⟨⟨vi,ei⟩,he⟩:∃ x,rows[i]=x:=⟨_,rfl⟩;rw[he]at hri hAt;simp only at hAt;have hel:ei.length=A.length:=by rw[hAt.1,Q4,A0p];exact hs.len hlt
  obtain⟨gi,ci,e⟩:=hbag.ptr (i+1) (x:=Aqj (vi,ei)) (by simp[hri]) (by intro e;simp only[Aqj]at e;rw[e]at hel;simp at hel;omega);simp only[Aqj]at e;rw[hel]at e;subst e;have hoi:ElP m9 go (0+i*1) (.slice (some ⟨gi,0,none⟩) A.length ci):=hbag.el 0 (x:=oN (.slice (some ⟨go,0,none⟩) A.length c6) rows) rfl rfl (by show (rows.map (·.1))[i]?=_;rw[A0v,hri];rfl);have hbi:i<b.length:=oV
  have hR9:Arj u9 (.slice ea' A.length ec') ((b.map fun q=>[q]).map (Q4 D')):=Arj.mono hR8 l9;have hci:((b.map fun q=>[q]).map (Q4 D'))[i]?=some [(gR b i).num*((D' / (gR b i).den:Nat):Int)]:=by
   rw[A0v,A0v,A0n hbi,Mj hbi];rfl
  obtain⟨b10,o10,e10,rfl,h10,f10⟩:=LP.at hR9 hci;obtain⟨a11,c11,rfl⟩:=LP.opn f10;obtain⟨b12,o12,e12,rfl,h12,f12⟩:=LP.at f10 (j:=0) (x:=(gR b i).num*((D' / (gR b i).den:Nat):Int)) rfl;obtain⟨f13,rfl⟩:=f12.opN;refine G.a go 0 A.length c6 i 1 hlt ?_;refine G.lM none go (0+i*1) _ hoi ?_;refine G.a b10 o10 A.length ec' i 1 hlt ?_;refine G.lU none b10 (o10+i*1) _ h10 ?_;refine G.a b12 o12 1 c11 0 2 oV ?_;refine G.lU (some 2) b12 (o12+0*2) (nv f13) h12 ?_;refine G.B 114 2 32 (.agg #[.bool false,.slice none 0 0]) [nv f13] (f12.ok) ?_;intro g14 u14 l14 e14;obtain⟨m0,hx0,hput⟩:=hbag.focus (i+1) (x:=Aqj (.slice (some ⟨gi,0,none⟩) A.length ci,ei)) (by simp[hri]);rw[Avy]at hx0;refine G.append 114 2 32 (.agg #[.bool false,.slice none 0 0]) m0 ei [nv f13] (.slice (some ⟨gi,0,none⟩) A.length ci) g14 0 1 1 kV rfl rfl oV hx0 e14 (f12.ok) rfl oV oV oV ?_;intro v15 m15 hA15;have hb15:=hput (Aqj (v15,ei++[nv f13])) m15 hA15;obtain⟨m1,hx1,hput1⟩:=hb15.focus 0 rfl;rw[Aup]at hx1;obtain⟨a15,c15,rfl⟩:=hA15.shape;refine G.a go 0 A.length c6 i 1 hlt ?_;refine G.storeA 1 m1 _ go A.length c6 i (.slice a15 (ei++[nv f13]).length c15) kV hx1 gV rfl rfl ?_;intro m16 hx16;have hb16:=hput1 (oN (.slice (some ⟨go,0,none⟩) A.length c6) (rows.set i (.slice a15 (ei++[nv f13]).length c15,ei++[nv f13]))) m16 (by rw[Aup,A27];exact hx16);rw[show ((oN (.slice (some ⟨go,0,none⟩) A.length c6) rows::rows.map Aqj).set (i+1) (Aqj (.slice a15 (ei++[nv f13]).length c15,ei++[nv f13]))).set 0 (oN (.slice (some ⟨go,0,none⟩) A.length c6) (rows.set i (.slice a15 (ei++[nv f13]).length c15,ei++[nv f13]))) =
   oN (.slice (some ⟨go,0,none⟩) A.length c6) (rows.set i (.slice a15 (ei++[nv f13]).length c15,ei++[nv f13]))::(rows.set i (.slice a15 (ei++[nv f13]).length c15,ei++[nv f13])).map Aqj by rw[A2c,A2k,A27]]at hb16
  refine G.i i ?_;refine G.b (hJ (i+1,rows.set i (.slice a15 (ei++[nv f13]).length c15,ei++[nv f13])) _ _ _ cV (l9.trans l14) ⟨dV,?_,hb16⟩ dV);dsimp only;rw[<-Ax0 hyl (by simpa using hlt),Ase hlt];have hgm:gM A i=A[i]:=N6 hlt;rw[hgm];exact (hQ.mono l14).set oV ((hAt.mono fun _ _ k=>k.mono l14).snoc (f12.mono l14))
 obtain rfl:i=A.length:=oV
 refine G.lF (A.length:Int) (A.length:Int) ?_;clear hJ;rw[Axt (by simp[Aq8]) mV]at hQ;refine G.giveP (ma:=m9) (sm:=PH.mt) kV (by funext g;unfold PH.or;cases m9 g<;>rfl) (fun g=>.inr rfl) (fun g=>.inl rfl) ?_
 intro u10 l10 hm10;have hM10:=Awp hbag (hQ.mono l10) hm10;have hsz:=Ayg (D:=D) (D':=D') hs hbl hT hbT hDL hDL';refine G.c call151 (Ayp hM10 hXn oV oV h0 oV hsz oV (Az9 hle)) ?_;rintro v11 u11 l11 ⟨a12,c12,pa,pc,fv,rfl,hS,hV⟩;obtain⟨hPl,hSr,hv0,hSs⟩:=(Au6 hXn).resolve_right fun h=>Az3 hs hsys hk h.1;obtain⟨hzX,hzv⟩:=Axa (n:=A.length) (w:=A.length+1) (E:=2) A.length 0 ⟨Aq8 A b D D',[],1,false⟩ hsz (A0q (nl1 (n:=1) oV) (by show 1<=2;omega)) hXn (A1m _);rw[A2b]at hzX hzv;clear hle;have hle:=hs.le;generalize Aq0 A.length A.length 0 ⟨Aq8 A b D D',[],1,false⟩=s at *
 refine G.lF' (s.P.length:Int) (A.length:Int) (by rw[hPl];omega) ?_;have hqs:=Ayh hs hbl hsys hv0 hSs;have hql:(qsZ A.length s.X s.v D D').length=A.length:=by simp[qsZ]
 have hz12:=Az9 hle;have hnD:nl (D:Int).natAbs<=2:=nlM (by have:=A5s oV hDL;omega);have hnD':nl (D':Int).natAbs<=2:=nlM (by have:=A5s oV hDL';omega);have hDn10:=(((hDn.mono l7).mono l8).mono l9).mono (l10.trans l11);have hDn10':=(hDn'.mono l9).mono (l10.trans l11);refine G.l (ι:=Nat×List Value×(Option Addr×Nat)) (fun i=>[(0,sV a0 A.length c0),(7,.p 10005 0),(8,.p 10006 0),(10,.p 16005 0),(11,sV i.2.2.1 i.1 i.2.2.2),(79,sV a12 A.length c12),(80,iV A.length),(81,iV i.1)])
  (fun i=>[(10005,⟨218,[bV fD.b,sV fD.a fD.n fD.c,sV (some ⟨go,0,none⟩) A.length c6]⟩),(10006,⟨218,[bV eb,sV ea en' ec,sV ea' A.length ec']⟩),
   (16005,⟨222,[.v (.slice a12 A.length c12),.v (.slice pa s.P.length pc),.v (.bool fv.b),.v (.slice fv.a fv.n fv.c),.v (.bool s.odd)]⟩)])
  (fun i u' m'=>i.1<=A.length/\AtP Av u' i.2.1 ((qsZ A.length s.X s.v D D').take i.1)/\Ae PH.mt m' (.slice i.2.2.1 i.1 i.2.2.2) 116 4 i.2.1) (fun i=>A.length-i.1) (0,[],(none,0))
  ⟨A1m _,AtP.nil,Ae.nil _ _ _⟩ ?_
 rintro J ⟨i,es,⟨oa,oc⟩⟩ hJ u12 m12 l12 ⟨hi,hF,hA12⟩;simp only at hi hF hA12 hJ;have hel:=hF.1;rw[A00]at hel;by_cases hlt:i<A.length
 ·refine G.lT (i:Int) (A.length:Int) ?_;have hsi:i<s.X.length:=by rw[hSr.1];exact hlt
  have hxi:s.X[i]?=some s.X[i]:=A0n hsi;have hwi:s.X[i].length=A.length+1:=by have:=hSr.2 i hlt;rwa[Ar7 (by rw[hSr.1];exact hlt)]at this
  obtain⟨b13,o13,e13,rfl,h13,f13⟩:=LP.at (Arj.mono hS l12) hxi;obtain⟨a14,c14,rfl⟩:=LP.opn f13;rw[hwi]at f13 h13;obtain⟨b15,o15,e15,rfl,h15,f15⟩:=LP.at f13 (j:=A.length) (x:=enZ s.X i A.length) (by
   unfold enZ;rw[Ar7 (by rw[hSr.1];exact hlt),Atp oV];exact A0n oV)
  obtain⟨f16,rfl⟩:=f15.opN;refine G.a b13 o13 A.length c12 i 1 hlt ?_;refine G.lU none b13 (o13+i*1) _ h13 ?_;refine G.a b15 o15 (A.length+1) c14 A.length 2 oV ?_;refine G.lU (some 2) b15 (o15+A.length*2) (nv f16) h15 ?_;have hz1:=hzX i A.length;have hD12:=hDn10.mono l12;have hD12':=hDn10'.mono l12;refine G.c call121 (Gg f15 hD12 (A0q hz1 oV) (A0q hnD oV)) ?_;intro v17 u17 l17 k17;obtain⟨f17,rfl⟩:=k17.opN;refine G.c call121 (Gg ((hV.mono l12).mono l17) (hD12'.mono l17) (A0q hzv oV) (A0q hnD' oV)) ?_;intro v18 u18 l18 k18;obtain⟨f18,rfl⟩:=k18.opN;have hn17:nl (enZ s.X i A.length*(D:Int)).natAbs<=2*1000000000:=Bl (A0q hz1 hz12) (A0q hnD oV);have hn18:nl (s.v*(D':Int)).natAbs<=2*1000000000:=Bl (A0q hzv hz12) (A0q hnD' oV);have hzne:s.v*(D':Int)≠0:=Int.mul_ne_zero hv0 oV;refine G.c call120 (Rp (k17.mono l18) k18 (A0q hn17 oV) (A0q hn18 oV) hzne) ?_;intro v19 u19 l19 k19;have hok:A3 4 [v19]:=(AtP.nil.snoc k19:AtP Av u19 [v19] [_]).ok4;obtain⟨x1,x2,x3,x4,x5,x6,x7,x8,rfl⟩:=k19.opn;refine G.B 116 4 64 (.agg #[.bool false,.slice none 0 0,.bool false,.slice none 0 0]) [.agg #[.bool x1,.slice x2 x3 x4,.bool x5,.slice x6 x7 x8]] hok ?_;intro g20 u20 l20 e20;refine G.append 116 4 64 (.agg #[.bool false,.slice none 0 0,.bool false,.slice none 0 0]) PH.mt es [.agg #[.bool x1,.slice x2 x3 x4,.bool x5,.slice x6 x7 x8]] (.slice oa i oc) g20 0 1 1 kV rfl rfl oV hA12 e20 hok rfl oV oV oV ?_;intro v21 m21 hA21;obtain⟨a21,c21,rfl⟩:=hA21.shape;have el:(es++[A8q #[.bool x1,.slice x2 x3 x4,.bool x5,.slice x6 x7 x8]]).length=i+1:=by rw[A0z,hel,hql];simp;omega
  rw[el]at hA21⊢;refine G.i i ?_;refine G.b (hJ (i+1,es++[A8q #[.bool x1,.slice x2 x3 x4,.bool x5,.slice x6 x7 x8]],(a21,c21)) _ _ _ cV ((((l12.trans l17).trans l18).trans l19).trans l20) ⟨dV,?_,hA21⟩ dV);dsimp only;have hqi:(qsZ A.length s.X s.v D D')[i]?=some (A2m (enZ s.X i A.length*(D:Int)) (s.v*(D':Int))):=by
   rw[<-Aw5 hlt,Mj oV];exact A0n oV
  rw[List.take_add_one,hqi];exact (hF.mono fun _ _ k=>k.mono (((l17.trans l18).trans l19).trans l20)).snoc (k19.mono l20)
 obtain rfl:i=A.length:=oV
 refine G.lF (A.length:Int) (A.length:Int) ?_;rw[A03 oV]at hF;refine G.give PH.mt es _ kV hA12 (fun _=>.inl rfl) ?_;intro u13 l13 hL13;have hFs:M6 u13 (.slice oa A.length oc) (qsZ A.length s.X s.v D D'):=⟨es,hL13,hF.mono fun _ _ k=>k.mono l13⟩;have hTh:∀ q∈qsZ A.length s.X s.v D D',Tx q:=fun q hq=>by
  obtain⟨j,hj,rfl⟩:=A2u.1 hq;rw[<-Mj hj];exact hsol _ hqs j oV
 refine G.c call90 (Avf (((ht.mono le8).mono l9).mono (((l10.trans l11).trans l12).trans l13)) hFs hTh oV) ?_;rintro v14 u14 l14 ⟨r,rfl,hr⟩;exact G.r (.tuple #[r,.int .i64 0]) ⟨rfl,_,r,rfl,hql,hqs,hr⟩
end
end Go.Proofs.YtanfagpabkdmiaaGreatDoor
