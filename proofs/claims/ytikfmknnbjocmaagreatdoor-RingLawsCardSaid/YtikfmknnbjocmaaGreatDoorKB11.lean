/- Joined out of parts of one proof by a program: contracts of the functions that the statement reaches, and the plain facts behind them. -/
import Derived.Test.YtikfmknnbjocmaaGreatDoorKB10
set_option linter.unusedVariables false
set_option linter.unusedSimpArgs false
set_option linter.unusedSectionVars false
section
set_option linter.unusedSectionVars false
set_option linter.unusedVariables false
namespace Go.Proofs.YtikfmknnbjocmaaGreatDoor
open Go.RowKit Go.MapKept
theorem cfv_num (q : Rat) : CFV (CF.num q) := CFV.count q
theorem cfd_num {d N : Nat} {q : Rat} (h : Dn d N q) : CFD d N (CF.num q) := CFD.count h
theorem scale_num (F : CF) (q : Rat) : F.mul (CF.num q) = F.scale q := (CF.scale_mul F q).symm
theorem scale_zero' (F : CF) : F.scale 0 = CF.num 0 := CF.ext' (by simp only [CF.scale, CF.num]; grind) (fun p => by simp only [CF.scale, CF.num]; grind) (fun q => by simp only [CF.scale, CF.num]; grind)
theorem pw {n : Nat} (h : n < 10 ^ 30) : n < 10 ^ 100 := Nat.lt_of_lt_of_le h (by decide +kernel)
set_option maxHeartbeats 8000000 in
theorem ringScales0 {u : PH} {v : Value} {ts : List Int} (ht : TabU u) (hv : ListP u v 1 (intsZ ts)) (hlo : ∀ t ∈ ts, -9223372036854775808 ≤ t) (hhi : ∀ t ∈ ts, t ≤ 9223372036854775807) :
    Fn0 Tryz.prog 4 [v] u fun v' _ => v' = .bool true := by
  obtain ⟨a, c, rfl⟩ := hv.opn
  rw [intsZ_length] at hv ⊢
  refine Fn0.of Tryz.func4 (by kernel_rfl) (by kernel_rfl) ?_
  by_cases h400 : 400 < ts.length
  · refine G.gtrT (ts.length : Int) 400 (by kernel_rfl) (by omega) ?_
    refine G.call0 _ _ (by kernel_rfl) Tryz.call8 (sane0 ht) ?_
    rintro v1 u1 l1 rfl
    exact G.ret (.bool true) (by kernel_rfl) ⟨rfl, rfl⟩
  refine G.gtrF (ts.length : Int) 400 (by kernel_rfl) (by omega) ?_
  refine G.callO _ _ (by kernel_rfl) Tryz.call9 (srcNew0 hv (by omega) hlo hhi) ?_
  rintro v1 u1 m1 l1 ⟨s, rfl, rfl, hs⟩ _
  rw [mt_or]
  refine G.callA _ _ (by kernel_rfl) (by kernel_rfl) Tryz.call21 (mt_or _).symm (apart_mt _) (srcCof0 hs (Nat.zero_le _)) ?_
  rintro v2 u2 m2 l2 ⟨F, k2, cF, dF, vF, hk2, rfl⟩ _
  rw [mt_or]
  obtain ⟨a1, n1, c1, a1', n1', c1', rfl⟩ := cF.opn
  refine G.callA _ _ (by kernel_rfl) (by kernel_rfl) Tryz.call21 (mt_or _).symm (apart_mt _) (srcCof0 (hs.mono l2) hk2) ?_
  rintro v3 u3 m3 l3 ⟨H, k3, cH, dH, vH, hk3, rfl⟩ _
  rw [mt_or]
  obtain ⟨a2, n2, c2, a2', n2', c2', rfl⟩ := cH.opn
  refine G.callA _ _ (by kernel_rfl) (by kernel_rfl) Tryz.call22 (mt_or _).symm (apart_mt _) (srcRat0 (hs.mono (l2.trans l3)) hk3) ?_
  rintro v4 u4 m4 l4 ⟨q, k4, rfl, hq, hk4, rfl⟩ _
  rw [mt_or]
  have ht4 := ht.mono (((l1.trans l2).trans l3).trans l4)
  have cF4 := cF.mono (l3.trans l4)
  have cH4 := cH.mono l4
  have sF : CFS F := dF.cfs (by omega) (pw (by decide +kernel))
  have sH : CFS H := dH.cfs (by omega) (pw (by decide +kernel))
  have sq : SB q := hq.dn.small (by omega) (pw (by decide +kernel))
  have dx := dF.scale hq.dn
  have sx : CFS (F.scale q) := dx.cfs (by omega) (pw (by decide +kernel))
  have dab := dF.mul dH
  have sab : CFS (F.mul H) := dab.cfs (by omega) (pw (by decide +kernel))
  have du := dab.scale hq.dn
  have su : CFS ((F.mul H).scale q) := du.cfs (by omega) (pw (by decide +kernel))
  refine G.call0 _ _ (by kernel_rfl) Tryz.call23 (ringScale0 ht4 cF4 vF sF sq sx (by omega)) ?_
  rintro v5 u5 l5 ⟨w5, rfl, k5⟩
  obtain ⟨a5, n5, c5, a5', n5', c5', rfl⟩ := k5.opn
  refine G.call0 _ _ (by kernel_rfl) Tryz.call15 (ringMul0 (ht4.mono l5) (cF4.mono l5) (cofP_num u5 q) vF (cfv_num q) (mulOK dF (cfd_num hq.dn) (by omega) (pw (by decide +kernel)) (by omega) (by omega)) (by rw [scale_num]; exact sx) (by omega) (by omega)) ?_
  rintro v6 u6 l6 ⟨w6, rfl, k6⟩
  obtain ⟨a6, n6, c6, a6', n6', c6', rfl⟩ := k6.opn
  refine G.call0 _ _ (by kernel_rfl) Tryz.call15 (ringMul0 (ht4.mono (l5.trans l6)) (cF4.mono (l5.trans l6)) (cH4.mono (l5.trans l6)) vF vH (mulOK dF dH (by omega) (pw (by decide +kernel)) (by omega) (by omega)) sab (by omega) (by omega)) ?_
  rintro v7 u7 l7 ⟨w7, rfl, k7⟩
  obtain ⟨a7, n7, c7, a7', n7', c7', rfl⟩ := k7.opn
  refine G.call0 _ _ (by kernel_rfl) Tryz.call23 (ringScale0 (ht4.mono ((l5.trans l6).trans l7)) k7 (vF.mul vH) sab sq su (by omega)) ?_
  rintro v8 u8 l8 ⟨w8, rfl, k8⟩
  obtain ⟨a8, n8, c8, a8', n8', c8', rfl⟩ := k8.opn
  refine G.call0 _ _ (by kernel_rfl) Tryz.call15 (ringMul0 (ht4.mono (((l5.trans l6).trans l7).trans l8)) (k5.mono ((l6.trans l7).trans l8)) (cH4.mono (((l5.trans l6).trans l7).trans l8)) (vF.scale q) vH (mulOK dx dH (by omega) (pw (by decide +kernel)) (by omega) (by omega)) (by rw [← CF.mul_scale]; exact su) (by omega) (by omega)) ?_
  rintro v9 u9 l9 ⟨w9, rfl, k9⟩
  obtain ⟨a9, n9, c9, a9', n9', c9', rfl⟩ := k9.opn
  have le9 := ((((l5.trans l6).trans l7).trans l8).trans l9)
  have hz := ringScale0 (ht4.mono le9) (cF4.mono le9) vF sF SB.zero (by rw [scale_zero']; exact (cfd_num (Dn.zero 0 1)).cfs (by omega) (pw (by decide +kernel))) (by omega)
  rw [ratT_zero] at hz
  refine G.call0 _ _ (by kernel_rfl) Tryz.call23 hz ?_
  rintro v10 u10 l10 ⟨w10, rfl, k10⟩
  obtain ⟨a10, n10, c10, a10', n10', c10', rfl⟩ := k10.opn
  have k5' := k5.mono ((((l6.trans l7).trans l8).trans l9).trans l10)
  have k6' := k6.mono (((l7.trans l8).trans l9).trans l10)
  have k8' := k8.mono (l9.trans l10)
  have k9' := k9.mono l10
  rw [scale_num] at k6' ⊢
  rw [← CF.mul_scale] at k9' ⊢
  rw [scale_zero'] at k10 ⊢
  refine G.eqlT 0 0 (by kernel_rfl) (by omega) ?_
  refine G.eqlT 0 0 (by kernel_rfl) (by omega) ?_
  refine G.eqlT 0 0 (by kernel_rfl) (by omega) ?_
  refine G.eqlT 0 0 (by kernel_rfl) (by omega) ?_
  refine G.eqlT 0 0 (by kernel_rfl) (by omega) ?_
  refine G.eqlT 0 0 (by kernel_rfl) (by omega) ?_
  refine G.call0 _ _ (by kernel_rfl) Tryz.call16 (same0 k5' k6' (by omega)) ?_
  rintro v11 u11 l11 rfl
  refine G.call0 _ _ (by kernel_rfl) Tryz.call16 (same0 (k8'.mono l11) (k9'.mono l11) (by omega)) ?_
  rintro v12 u12 l12 rfl
  refine G.call0 _ _ (by kernel_rfl) Tryz.call17 ringZero0 ?_
  rintro v13 u13 l13 rfl
  refine G.call0 _ _ (by kernel_rfl) Tryz.call16 (same0 (k10.mono ((l11.trans l12).trans l13)) (cofP_num u13 0) (by omega)) ?_
  rintro v14 u14 l14 rfl
  refine G.call0 _ _ (by kernel_rfl) Tryz.call8 (sane0 (ht4.mono (le9.trans ((((l10.trans l11).trans l12).trans l13).trans l14)))) ?_
  rintro v15 u15 l15 rfl
  refine G.drop PH.mt (by kernel_rfl) (PH.mt_le _) ?_
  exact G.ret (.bool true) (by kernel_rfl) ⟨rfl, rfl⟩
end Go.Proofs.YtikfmknnbjocmaaGreatDoor
end
section
set_option linter.unusedSectionVars false
set_option linter.unusedVariables false
namespace Go.Proofs.YtikfmknnbjocmaaGreatDoor
open Go.RowKit Go.MapKept
theorem tm1 : ratT (-1) = [45, 49] := by decide +kernel
set_option maxHeartbeats 16000000 in
theorem ringLaws0 {u : PH} {v : Value} {ts : List Int} (ht : TabU u) (hv : ListP u v 1 (intsZ ts)) (hlo : ∀ t ∈ ts, -9223372036854775808 ≤ t) (hhi : ∀ t ∈ ts, t ≤ 9223372036854775807) :
    Fn0 Tryz.prog 7 [v] u fun v' _ => v' = .bool true := by
  obtain ⟨a, c, rfl⟩ := hv.opn
  rw [intsZ_length] at hv ⊢
  refine Fn0.of Tryz.func7 (by kernel_rfl) (by kernel_rfl) ?_
  by_cases h400 : 400 < ts.length
  · refine G.gtrT (ts.length : Int) 400 (by kernel_rfl) (by omega) ?_
    refine G.call0 _ _ (by kernel_rfl) Tryz.call8 (sane0 ht) ?_
    rintro v1 u1 l1 rfl
    exact G.ret (.bool true) (by kernel_rfl) ⟨rfl, rfl⟩
  refine G.gtrF (ts.length : Int) 400 (by kernel_rfl) (by omega) ?_
  refine G.callO _ _ (by kernel_rfl) Tryz.call9 (srcNew0 hv (by omega) hlo hhi) ?_
  rintro v1 u1 m1 l1 ⟨s, rfl, rfl, hs⟩ _
  rw [mt_or]
  have ht1 := ht.mono l1
  refine G.callA _ _ (by kernel_rfl) (by kernel_rfl) Tryz.call21 (mt_or _).symm (apart_mt _) (srcCof0 hs (Nat.zero_le _)) ?_
  rintro v2 u2 m2 l2 ⟨F, k2, cF, dF, vF, hk2, rfl⟩ _
  rw [mt_or]
  have hs2 := hs.mono l2
  have ht2 := ht1.mono l2
  obtain ⟨a2, n2, e2, a2', n2', e2', rfl⟩ := cF.opn
  refine G.callA _ _ (by kernel_rfl) (by kernel_rfl) Tryz.call21 (mt_or _).symm (apart_mt _) (srcCof0 hs2 hk2) ?_
  rintro v3 u3 m3 l3 ⟨H, k3, cH, dH, vH, hk3, rfl⟩ _
  rw [mt_or]
  have hs3 := hs2.mono l3
  have ht3 := ht2.mono l3
  obtain ⟨a3, n3, e3, a3', n3', e3', rfl⟩ := cH.opn
  refine G.callA _ _ (by kernel_rfl) (by kernel_rfl) Tryz.call21 (mt_or _).symm (apart_mt _) (srcCof0 hs3 hk3) ?_
  rintro v4 u4 m4 l4 ⟨E, k4, cE, dE, vE, hk4, rfl⟩ _
  rw [mt_or]
  have hs4 := hs3.mono l4
  have ht4 := ht3.mono l4
  obtain ⟨a4, n4, e4, a4', n4', e4', rfl⟩ := cE.opn
  have cF := (cF.mono l3).mono l4
  have cH := cH.mono l4
  have sF : CFS F := dF.cfs (by omega) (pw (by decide +kernel))
  have sH : CFS H := dH.cfs (by omega) (pw (by decide +kernel))
  have sE : CFS E := dE.cfs (by omega) (pw (by decide +kernel))
  have dab := dF.add dH
  have dba := dH.add dF
  have sab : CFS (F.add H) := dab.cfs (by omega) (pw (by decide +kernel))
  have sba : CFS (H.add F) := dba.cfs (by omega) (pw (by decide +kernel))
  have dx := dab.mul dE
  have sx : CFS ((F.add H).mul E) := dx.cfs (by omega) (pw (by decide +kernel))
  have dac := dF.mul dE
  have sac : CFS (F.mul E) := dac.cfs (by omega) (pw (by decide +kernel))
  have dbc := dH.mul dE
  have sbc : CFS (H.mul E) := dbc.cfs (by omega) (pw (by decide +kernel))
  have sy : CFS ((F.mul E).add (H.mul E)) := (dac.add dbc).cfs (by omega) (pw (by decide +kernel))
  have dca := dE.mul dF
  have sca : CFS (E.mul F) := dca.cfs (by omega) (pw (by decide +kernel))
  have sp : CFS ((F.mul E).mul H) := (dac.mul dH).cfs (by omega) (pw (by decide +kernel))
  have sq : CFS (F.mul (H.mul E)) := (dF.mul dbc).cfs (by omega) (pw (by decide +kernel))
  have d1 : CFD 0 1 (CF.num 1) := cfd_num ⟨1, by decide +kernel, by decide⟩
  have d0 : CFD 0 1 (CF.num 0) := cfd_num (Dn.zero 0 1)
  have s0 : CFS (CF.num 0) := d0.cfs (by omega) (pw (by decide +kernel))
  have fe1 : F.mul (CF.num 1) = F := CF.mul_one F
  have fe2 : F.add (CF.num 0) = F := CF.add_zero F
  have fe3 : F.add (F.scale (-1)) = CF.num 0 := CF.add_neg F
  have fe4 : F.mul (CF.num 0) = CF.num 0 := CF.mul_zero F
  have dl : CFD 1 108 (F.scale (-1)) := dF.scale (e := 0) (M := 1) ⟨-1, by decide +kernel, by decide⟩
  have sl : CFS (F.scale (-1)) := dl.cfs (by omega) (pw (by decide +kernel))
  have o1 : MulOK (F.add H) E := mulOK dab dE (by omega) (pw (by decide +kernel)) (by omega) (by omega)
  have o2 : MulOK F E := mulOK dF dE (by omega) (pw (by decide +kernel)) (by omega) (by omega)
  have o3 : MulOK H E := mulOK dH dE (by omega) (pw (by decide +kernel)) (by omega) (by omega)
  have o4 : MulOK E F := mulOK dE dF (by omega) (pw (by decide +kernel)) (by omega) (by omega)
  have o5 : MulOK (F.mul E) H := mulOK dac dH (by omega) (pw (by decide +kernel)) (by omega) (by omega)
  have o6 : MulOK F (H.mul E) := mulOK dF dbc (by omega) (pw (by decide +kernel)) (by omega) (by omega)
  have o7 : MulOK F (CF.num 1) := mulOK dF d1 (by omega) (pw (by decide +kernel)) (by omega) (by omega)
  have o8 : MulOK F (CF.num 0) := mulOK dF d0 (by omega) (pw (by decide +kernel)) (by omega) (by omega)
  refine G.call0 _ _ (by kernel_rfl) Tryz.call24 (ringAdd0 ht4 cF cH vF vH sF sH sab (by omega) (by omega)) ?_
  rintro v5 u5 l5 ⟨w5, rfl, kAB⟩
  obtain ⟨a5, n5, e5, a5', n5', e5', rfl⟩ := kAB.opn
  have ht5 := ht4.mono l5
  have cF := cF.mono l5
  have cH := cH.mono l5
  have cE := cE.mono l5
  refine G.call0 _ _ (by kernel_rfl) Tryz.call24 (ringAdd0 ht5 cH cF vH vF sH sF sba (by omega) (by omega)) ?_
  rintro v6 u6 l6 ⟨w6, rfl, kBA⟩
  obtain ⟨a6, n6, e6, a6', n6', e6', rfl⟩ := kBA.opn
  have ht6 := ht5.mono l6
  rw [CF.add_comm H F] at kBA ⊢
  have cF := cF.mono l6
  have cH := cH.mono l6
  have cE := cE.mono l6
  have kAB := kAB.mono l6
  refine G.call0 _ _ (by kernel_rfl) Tryz.call15 (ringMul0 ht6 kAB cE (vF.add vH) vE o1 sx (by omega) (by omega)) ?_
  rintro v7 u7 l7 ⟨w7, rfl, kX⟩
  obtain ⟨a7, n7, e7, a7', n7', e7', rfl⟩ := kX.opn
  have ht7 := ht6.mono l7
  have cF := cF.mono l7
  have cH := cH.mono l7
  have cE := cE.mono l7
  have kAB := kAB.mono l7
  have kBA := kBA.mono l7
  refine G.call0 _ _ (by kernel_rfl) Tryz.call15 (ringMul0 ht7 cF cE vF vE o2 sac (by omega) (by omega)) ?_
  rintro v8 u8 l8 ⟨w8, rfl, kAC⟩
  obtain ⟨a8, n8, e8, a8', n8', e8', rfl⟩ := kAC.opn
  have ht8 := ht7.mono l8
  have cF := cF.mono l8
  have cH := cH.mono l8
  have cE := cE.mono l8
  have kAB := kAB.mono l8
  have kBA := kBA.mono l8
  have kX := kX.mono l8
  refine G.call0 _ _ (by kernel_rfl) Tryz.call15 (ringMul0 ht8 cH cE vH vE o3 sbc (by omega) (by omega)) ?_
  rintro v9 u9 l9 ⟨w9, rfl, kBC⟩
  obtain ⟨a9, n9, e9, a9', n9', e9', rfl⟩ := kBC.opn
  have ht9 := ht8.mono l9
  have cF := cF.mono l9
  have cH := cH.mono l9
  have cE := cE.mono l9
  have kAB := kAB.mono l9
  have kBA := kBA.mono l9
  have kX := kX.mono l9
  have kAC := kAC.mono l9
  refine G.call0 _ _ (by kernel_rfl) Tryz.call24 (ringAdd0 ht9 kAC kBC (vF.mul vE) (vH.mul vE) sac sbc sy (by omega) (by omega)) ?_
  rintro v10 u10 l10 ⟨w10, rfl, kY⟩
  obtain ⟨a10, n10, e10, a10', n10', e10', rfl⟩ := kY.opn
  have ht10 := ht9.mono l10
  rw [← CF.mul_add F H E] at kY ⊢
  have cF := cF.mono l10
  have cH := cH.mono l10
  have cE := cE.mono l10
  have kAB := kAB.mono l10
  have kBA := kBA.mono l10
  have kX := kX.mono l10
  have kAC := kAC.mono l10
  have kBC := kBC.mono l10
  refine G.call0 _ _ (by kernel_rfl) Tryz.call15 (ringMul0 ht10 cE cF vE vF o4 sca (by omega) (by omega)) ?_
  rintro v11 u11 l11 ⟨w11, rfl, kCA⟩
  obtain ⟨a11, n11, e11, a11', n11', e11', rfl⟩ := kCA.opn
  have ht11 := ht10.mono l11
  rw [CF.mul_comm E F] at kCA ⊢
  have cF := cF.mono l11
  have cH := cH.mono l11
  have cE := cE.mono l11
  have kAB := kAB.mono l11
  have kBA := kBA.mono l11
  have kX := kX.mono l11
  have kAC := kAC.mono l11
  have kBC := kBC.mono l11
  have kY := kY.mono l11
  refine G.call0 _ _ (by kernel_rfl) Tryz.call15 (ringMul0 ht11 kAC cH (vF.mul vE) vH o5 sp (by omega) (by omega)) ?_
  rintro v12 u12 l12 ⟨w12, rfl, kP⟩
  obtain ⟨a12, n12, e12, a12', n12', e12', rfl⟩ := kP.opn
  have ht12 := ht11.mono l12
  have cF := cF.mono l12
  have cH := cH.mono l12
  have cE := cE.mono l12
  have kAB := kAB.mono l12
  have kBA := kBA.mono l12
  have kX := kX.mono l12
  have kAC := kAC.mono l12
  have kBC := kBC.mono l12
  have kY := kY.mono l12
  have kCA := kCA.mono l12
  refine G.call0 _ _ (by kernel_rfl) Tryz.call15 (ringMul0 ht12 cF kBC vF (vH.mul vE) o6 sq (by omega) (by omega)) ?_
  rintro v13 u13 l13 ⟨w13, rfl, kQ⟩
  obtain ⟨a13, n13, e13, a13', n13', e13', rfl⟩ := kQ.opn
  have ht13 := ht12.mono l13
  rw [CF.mul_comm H E, ← CF.mul_assoc F E H] at kQ ⊢
  have cF := cF.mono l13
  have cH := cH.mono l13
  have cE := cE.mono l13
  have kAB := kAB.mono l13
  have kBA := kBA.mono l13
  have kX := kX.mono l13
  have kAC := kAC.mono l13
  have kBC := kBC.mono l13
  have kY := kY.mono l13
  have kCA := kCA.mono l13
  have kP := kP.mono l13
  refine G.call0 _ _ (by kernel_rfl) Tryz.call12 (ringOne0) ?_
  rintro v14 u14 l14 rfl
  have ht14 := ht13.mono l14
  have cF := cF.mono l14
  have cH := cH.mono l14
  have cE := cE.mono l14
  have kAB := kAB.mono l14
  have kBA := kBA.mono l14
  have kX := kX.mono l14
  have kAC := kAC.mono l14
  have kBC := kBC.mono l14
  have kY := kY.mono l14
  have kCA := kCA.mono l14
  have kP := kP.mono l14
  have kQ := kQ.mono l14
  refine G.call0 _ _ (by kernel_rfl) Tryz.call15 (ringMul0 ht14 cF (cofP_num _ 1) vF (cfv_num 1) o7 (by rw [fe1]; exact sF) (by omega) (by omega)) ?_
  rintro v15 u15 l15 ⟨w15, rfl, kONE⟩
  obtain ⟨a15, n15, e15, a15', n15', e15', rfl⟩ := kONE.opn
  have ht15 := ht14.mono l15
  rw [fe1] at kONE ⊢
  have cF := cF.mono l15
  have cH := cH.mono l15
  have cE := cE.mono l15
  have kAB := kAB.mono l15
  have kBA := kBA.mono l15
  have kX := kX.mono l15
  have kAC := kAC.mono l15
  have kBC := kBC.mono l15
  have kY := kY.mono l15
  have kCA := kCA.mono l15
  have kP := kP.mono l15
  have kQ := kQ.mono l15
  refine G.call0 _ _ (by kernel_rfl) Tryz.call17 (ringZero0) ?_
  rintro v16 u16 l16 rfl
  have ht16 := ht15.mono l16
  have cF := cF.mono l16
  have cH := cH.mono l16
  have cE := cE.mono l16
  have kAB := kAB.mono l16
  have kBA := kBA.mono l16
  have kX := kX.mono l16
  have kAC := kAC.mono l16
  have kBC := kBC.mono l16
  have kY := kY.mono l16
  have kCA := kCA.mono l16
  have kP := kP.mono l16
  have kQ := kQ.mono l16
  have kONE := kONE.mono l16
  refine G.call0 _ _ (by kernel_rfl) Tryz.call24 (ringAdd0 ht16 cF (cofP_num _ 0) vF (cfv_num 0) sF s0 (by rw [fe2]; exact sF) (by omega) (by omega)) ?_
  rintro v17 u17 l17 ⟨w17, rfl, kZERO⟩
  obtain ⟨a17, n17, e17, a17', n17', e17', rfl⟩ := kZERO.opn
  have ht17 := ht16.mono l17
  rw [fe2] at kZERO ⊢
  have cF := cF.mono l17
  have cH := cH.mono l17
  have cE := cE.mono l17
  have kAB := kAB.mono l17
  have kBA := kBA.mono l17
  have kX := kX.mono l17
  have kAC := kAC.mono l17
  have kBC := kBC.mono l17
  have kY := kY.mono l17
  have kCA := kCA.mono l17
  have kP := kP.mono l17
  have kQ := kQ.mono l17
  have kONE := kONE.mono l17
  have hless := ringScale0 ht17 cF vF sF (q := -1) (by decide +kernel) sl (by omega)
  rw [tm1] at hless
  refine G.call0 _ _ (by kernel_rfl) Tryz.call23 (hless) ?_
  rintro v18 u18 l18 ⟨w18, rfl, kLESS⟩
  obtain ⟨a18, n18, e18, a18', n18', e18', rfl⟩ := kLESS.opn
  have ht18 := ht17.mono l18
  have cF := cF.mono l18
  have cH := cH.mono l18
  have cE := cE.mono l18
  have kAB := kAB.mono l18
  have kBA := kBA.mono l18
  have kX := kX.mono l18
  have kAC := kAC.mono l18
  have kBC := kBC.mono l18
  have kY := kY.mono l18
  have kCA := kCA.mono l18
  have kP := kP.mono l18
  have kQ := kQ.mono l18
  have kONE := kONE.mono l18
  have kZERO := kZERO.mono l18
  refine G.call0 _ _ (by kernel_rfl) Tryz.call24 (ringAdd0 ht18 cF kLESS vF (vF.scale (-1)) sF sl (by rw [fe3]; exact s0) (by omega) (by omega)) ?_
  rintro v19 u19 l19 ⟨w19, rfl, kNONE⟩
  obtain ⟨a19, n19, e19, a19', n19', e19', rfl⟩ := kNONE.opn
  have ht19 := ht18.mono l19
  rw [fe3] at kNONE ⊢
  have cF := cF.mono l19
  have cH := cH.mono l19
  have cE := cE.mono l19
  have kAB := kAB.mono l19
  have kBA := kBA.mono l19
  have kX := kX.mono l19
  have kAC := kAC.mono l19
  have kBC := kBC.mono l19
  have kY := kY.mono l19
  have kCA := kCA.mono l19
  have kP := kP.mono l19
  have kQ := kQ.mono l19
  have kONE := kONE.mono l19
  have kZERO := kZERO.mono l19
  have kLESS := kLESS.mono l19
  refine G.call0 _ _ (by kernel_rfl) Tryz.call17 (ringZero0) ?_
  rintro v20 u20 l20 rfl
  have ht20 := ht19.mono l20
  have cF := cF.mono l20
  have cH := cH.mono l20
  have cE := cE.mono l20
  have kAB := kAB.mono l20
  have kBA := kBA.mono l20
  have kX := kX.mono l20
  have kAC := kAC.mono l20
  have kBC := kBC.mono l20
  have kY := kY.mono l20
  have kCA := kCA.mono l20
  have kP := kP.mono l20
  have kQ := kQ.mono l20
  have kONE := kONE.mono l20
  have kZERO := kZERO.mono l20
  have kLESS := kLESS.mono l20
  have kNONE := kNONE.mono l20
  refine G.call0 _ _ (by kernel_rfl) Tryz.call15 (ringMul0 ht20 cF (cofP_num _ 0) vF (cfv_num 0) o8 (by rw [fe4]; exact s0) (by omega) (by omega)) ?_
  rintro v21 u21 l21 ⟨w21, rfl, kNIL⟩
  obtain ⟨a21, n21, e21, a21', n21', e21', rfl⟩ := kNIL.opn
  have ht21 := ht20.mono l21
  rw [fe4] at kNIL ⊢
  have cF := cF.mono l21
  have cH := cH.mono l21
  have cE := cE.mono l21
  have kAB := kAB.mono l21
  have kBA := kBA.mono l21
  have kX := kX.mono l21
  have kAC := kAC.mono l21
  have kBC := kBC.mono l21
  have kY := kY.mono l21
  have kCA := kCA.mono l21
  have kP := kP.mono l21
  have kQ := kQ.mono l21
  have kONE := kONE.mono l21
  have kZERO := kZERO.mono l21
  have kLESS := kLESS.mono l21
  have kNONE := kNONE.mono l21
  refine G.buildU 45 1 8 (.int .i64 0) [.int .i64 0, .int .i64 0, .int .i64 0, .int .i64 0, .int .i64 0, .int .i64 0, .int .i64 0, .int .i64 0, .int .i64 0, .int .i64 0, .int .i64 0, .int .i64 0, .int .i64 0, .int .i64 0] (by kernel_rfl) (fun e he => by
    simp at he
    subst he
    exact ⟨rfl, List.all_eq_true.1 rfl⟩) rfl (by omega) (by simp) (by simp) ?_
  intro g22 u22 l22 x22
  have ht22 := ht21.mono l22
  have cF := cF.mono l22
  have cH := cH.mono l22
  have cE := cE.mono l22
  have kAB := kAB.mono l22
  have kBA := kBA.mono l22
  have kX := kX.mono l22
  have kAC := kAC.mono l22
  have kBC := kBC.mono l22
  have kY := kY.mono l22
  have kCA := kCA.mono l22
  have kP := kP.mono l22
  have kQ := kQ.mono l22
  have kONE := kONE.mono l22
  have kZERO := kZERO.mono l22
  have kLESS := kLESS.mono l22
  have kNONE := kNONE.mono l22
  have kNIL := kNIL.mono l22
  refine G.loop (ι := Nat) (fun i => [(4, .p 4006 0), (7, .p 5006 0), (9, .p 6006 0), (11, .p 7006 0), (13, .p 8006 0), (17, .p 10006 0), (19, .p 11006 0), (21, .p 12006 0), (23, .p 13006 0), (25, .p 14006 0), (27, .p 15006 0), (31, .p 17006 0), (33, .p 18006 0), (146, .v (.slice (some ⟨g22, 0, none⟩) 14 14)), (147, .v (.int .i64 ((14 : Nat) : Int))), (148, .v (.int .i64 (i : Int)))])
    (fun _ => [(4006, ⟨38, [.v (.string (mkS (ratT (F).c))), .v (.slice a2 n2 e2), .v (.slice a2' n2' e2')]⟩), (5006, ⟨38, [.v (.string (mkS (ratT (F.add H).c))), .v (.slice a5 n5 e5), .v (.slice a5' n5' e5')]⟩), (6006, ⟨38, [.v (.string (mkS (ratT (F.add H).c))), .v (.slice a6 n6 e6), .v (.slice a6' n6' e6')]⟩), (7006, ⟨38, [.v (.string (mkS (ratT ((F.add H).mul E).c))), .v (.slice a7 n7 e7), .v (.slice a7' n7' e7')]⟩), (8006, ⟨38, [.v (.string (mkS (ratT (F.mul E).c))), .v (.slice a8 n8 e8), .v (.slice a8' n8' e8')]⟩), (10006, ⟨38, [.v (.string (mkS (ratT ((F.add H).mul E).c))), .v (.slice a10 n10 e10), .v (.slice a10' n10' e10')]⟩), (11006, ⟨38, [.v (.string (mkS (ratT (F.mul E).c))), .v (.slice a11 n11 e11), .v (.slice a11' n11' e11')]⟩), (12006, ⟨38, [.v (.string (mkS (ratT ((F.mul E).mul H).c))), .v (.slice a12 n12 e12), .v (.slice a12' n12' e12')]⟩), (13006, ⟨38, [.v (.string (mkS (ratT ((F.mul E).mul H).c))), .v (.slice a13 n13 e13), .v (.slice a13' n13' e13')]⟩), (14006, ⟨38, [.v (.string (mkS (ratT (F).c))), .v (.slice a15 n15 e15), .v (.slice a15' n15' e15')]⟩), (15006, ⟨38, [.v (.string (mkS (ratT (F).c))), .v (.slice a17 n17 e17), .v (.slice a17' n17' e17')]⟩), (17006, ⟨38, [.v (.string (mkS (ratT (CF.num 0).c))), .v (.slice a19 n19 e19), .v (.slice a19' n19' e19')]⟩), (18006, ⟨38, [.v (.string (mkS (ratT (CF.num 0).c))), .v (.slice a21 n21 e21), .v (.slice a21' n21' e21')]⟩)])
    (fun i u' m' => i ≤ 14) (fun i => 14 - i) 0 (by kernel_rfl) (fun _ => by kernel_rfl) ⟨by kernel_rfl, by kernel_rfl, by kernel_rfl⟩ (by omega) ?_
  rintro J i hJ u23 m23 l23 hi
  by_cases hlt : i < 14
  · refine G.lssT (i : Int) ((14 : Nat) : Int) (by kernel_rfl) (by omega) ?_
    refine G.addr g22 0 14 14 i 1 (by kernel_rfl) hlt ?_
    refine G.loadU none g22 (0 + i * 1) (.int .i64 0) (by kernel_rfl) (by kernel_rfl) ((x22.mono l23) i _ (by
      have : ∀ j : Fin 14, ([Value.int .i64 0, .int .i64 0, .int .i64 0, .int .i64 0, .int .i64 0, .int .i64 0, .int .i64 0, .int .i64 0, .int .i64 0, .int .i64 0, .int .i64 0, .int .i64 0, .int .i64 0, .int .i64 0] : List Value)[j.val]? = some (.int .i64 0) := fun j => by
        match j with
        | ⟨0, _⟩ | ⟨1, _⟩ | ⟨2, _⟩ | ⟨3, _⟩ | ⟨4, _⟩ | ⟨5, _⟩ | ⟨6, _⟩ | ⟨7, _⟩ | ⟨8, _⟩ | ⟨9, _⟩ | ⟨10, _⟩ | ⟨11, _⟩ | ⟨12, _⟩ | ⟨13, _⟩ => rfl
      exact this ⟨i, hlt⟩)) ?_
    refine G.neqF 0 0 (by kernel_rfl) (by omega) ?_
    refine G.add (i : Int) 1 ((i + 1 : Nat) : Int) (by kernel_rfl) (by omega) (by omega) (by omega) ?_
    exact G.back (by kernel_rfl) (hJ (i + 1) _ _ _ ⟨by kernel_rfl, by kernel_rfl, by kernel_rfl⟩ l23 (by omega) (by omega))
  obtain rfl : i = 14 := by omega
  refine G.lssF ((14 : Nat) : Int) ((14 : Nat) : Int) (by kernel_rfl) (by omega) ?_
  have ht23 := ht22.mono l23
  have cF := cF.mono l23
  have cH := cH.mono l23
  have cE := cE.mono l23
  have kAB := kAB.mono l23
  have kBA := kBA.mono l23
  have kX := kX.mono l23
  have kAC := kAC.mono l23
  have kBC := kBC.mono l23
  have kY := kY.mono l23
  have kCA := kCA.mono l23
  have kP := kP.mono l23
  have kQ := kQ.mono l23
  have kONE := kONE.mono l23
  have kZERO := kZERO.mono l23
  have kLESS := kLESS.mono l23
  have kNONE := kNONE.mono l23
  have kNIL := kNIL.mono l23
  refine G.call0 _ _ (by kernel_rfl) Tryz.call16 (same0 kAB kBA (by omega)) ?_
  rintro v24 u24 l24 rfl
  have ht24 := ht23.mono l24
  have cF := cF.mono l24
  have cH := cH.mono l24
  have cE := cE.mono l24
  have kAB := kAB.mono l24
  have kBA := kBA.mono l24
  have kX := kX.mono l24
  have kAC := kAC.mono l24
  have kBC := kBC.mono l24
  have kY := kY.mono l24
  have kCA := kCA.mono l24
  have kP := kP.mono l24
  have kQ := kQ.mono l24
  have kONE := kONE.mono l24
  have kZERO := kZERO.mono l24
  have kLESS := kLESS.mono l24
  have kNONE := kNONE.mono l24
  have kNIL := kNIL.mono l24
  refine G.call0 _ _ (by kernel_rfl) Tryz.call16 (same0 kX kY (by omega)) ?_
  rintro v25 u25 l25 rfl
  have ht25 := ht24.mono l25
  have cF := cF.mono l25
  have cH := cH.mono l25
  have cE := cE.mono l25
  have kAB := kAB.mono l25
  have kBA := kBA.mono l25
  have kX := kX.mono l25
  have kAC := kAC.mono l25
  have kBC := kBC.mono l25
  have kY := kY.mono l25
  have kCA := kCA.mono l25
  have kP := kP.mono l25
  have kQ := kQ.mono l25
  have kONE := kONE.mono l25
  have kZERO := kZERO.mono l25
  have kLESS := kLESS.mono l25
  have kNONE := kNONE.mono l25
  have kNIL := kNIL.mono l25
  refine G.call0 _ _ (by kernel_rfl) Tryz.call16 (same0 kAC kCA (by omega)) ?_
  rintro v26 u26 l26 rfl
  have ht26 := ht25.mono l26
  have cF := cF.mono l26
  have cH := cH.mono l26
  have cE := cE.mono l26
  have kAB := kAB.mono l26
  have kBA := kBA.mono l26
  have kX := kX.mono l26
  have kAC := kAC.mono l26
  have kBC := kBC.mono l26
  have kY := kY.mono l26
  have kCA := kCA.mono l26
  have kP := kP.mono l26
  have kQ := kQ.mono l26
  have kONE := kONE.mono l26
  have kZERO := kZERO.mono l26
  have kLESS := kLESS.mono l26
  have kNONE := kNONE.mono l26
  have kNIL := kNIL.mono l26
  refine G.call0 _ _ (by kernel_rfl) Tryz.call16 (same0 kP kQ (by omega)) ?_
  rintro v27 u27 l27 rfl
  have ht27 := ht26.mono l27
  have cF := cF.mono l27
  have cH := cH.mono l27
  have cE := cE.mono l27
  have kAB := kAB.mono l27
  have kBA := kBA.mono l27
  have kX := kX.mono l27
  have kAC := kAC.mono l27
  have kBC := kBC.mono l27
  have kY := kY.mono l27
  have kCA := kCA.mono l27
  have kP := kP.mono l27
  have kQ := kQ.mono l27
  have kONE := kONE.mono l27
  have kZERO := kZERO.mono l27
  have kLESS := kLESS.mono l27
  have kNONE := kNONE.mono l27
  have kNIL := kNIL.mono l27
  refine G.call0 _ _ (by kernel_rfl) Tryz.call16 (same0 kONE cF (by omega)) ?_
  rintro v28 u28 l28 rfl
  have ht28 := ht27.mono l28
  have cF := cF.mono l28
  have cH := cH.mono l28
  have cE := cE.mono l28
  have kAB := kAB.mono l28
  have kBA := kBA.mono l28
  have kX := kX.mono l28
  have kAC := kAC.mono l28
  have kBC := kBC.mono l28
  have kY := kY.mono l28
  have kCA := kCA.mono l28
  have kP := kP.mono l28
  have kQ := kQ.mono l28
  have kONE := kONE.mono l28
  have kZERO := kZERO.mono l28
  have kLESS := kLESS.mono l28
  have kNONE := kNONE.mono l28
  have kNIL := kNIL.mono l28
  refine G.call0 _ _ (by kernel_rfl) Tryz.call16 (same0 kZERO cF (by omega)) ?_
  rintro v29 u29 l29 rfl
  have ht29 := ht28.mono l29
  have cF := cF.mono l29
  have cH := cH.mono l29
  have cE := cE.mono l29
  have kAB := kAB.mono l29
  have kBA := kBA.mono l29
  have kX := kX.mono l29
  have kAC := kAC.mono l29
  have kBC := kBC.mono l29
  have kY := kY.mono l29
  have kCA := kCA.mono l29
  have kP := kP.mono l29
  have kQ := kQ.mono l29
  have kONE := kONE.mono l29
  have kZERO := kZERO.mono l29
  have kLESS := kLESS.mono l29
  have kNONE := kNONE.mono l29
  have kNIL := kNIL.mono l29
  refine G.call0 _ _ (by kernel_rfl) Tryz.call17 (ringZero0) ?_
  rintro v30 u30 l30 rfl
  have ht30 := ht29.mono l30
  have cF := cF.mono l30
  have cH := cH.mono l30
  have cE := cE.mono l30
  have kAB := kAB.mono l30
  have kBA := kBA.mono l30
  have kX := kX.mono l30
  have kAC := kAC.mono l30
  have kBC := kBC.mono l30
  have kY := kY.mono l30
  have kCA := kCA.mono l30
  have kP := kP.mono l30
  have kQ := kQ.mono l30
  have kONE := kONE.mono l30
  have kZERO := kZERO.mono l30
  have kLESS := kLESS.mono l30
  have kNONE := kNONE.mono l30
  have kNIL := kNIL.mono l30
  refine G.call0 _ _ (by kernel_rfl) Tryz.call16 (same0 kNONE (cofP_num _ 0) (by omega)) ?_
  rintro v31 u31 l31 rfl
  have ht31 := ht30.mono l31
  have cF := cF.mono l31
  have cH := cH.mono l31
  have cE := cE.mono l31
  have kAB := kAB.mono l31
  have kBA := kBA.mono l31
  have kX := kX.mono l31
  have kAC := kAC.mono l31
  have kBC := kBC.mono l31
  have kY := kY.mono l31
  have kCA := kCA.mono l31
  have kP := kP.mono l31
  have kQ := kQ.mono l31
  have kONE := kONE.mono l31
  have kZERO := kZERO.mono l31
  have kLESS := kLESS.mono l31
  have kNONE := kNONE.mono l31
  have kNIL := kNIL.mono l31
  refine G.call0 _ _ (by kernel_rfl) Tryz.call17 (ringZero0) ?_
  rintro v32 u32 l32 rfl
  have ht32 := ht31.mono l32
  have cF := cF.mono l32
  have cH := cH.mono l32
  have cE := cE.mono l32
  have kAB := kAB.mono l32
  have kBA := kBA.mono l32
  have kX := kX.mono l32
  have kAC := kAC.mono l32
  have kBC := kBC.mono l32
  have kY := kY.mono l32
  have kCA := kCA.mono l32
  have kP := kP.mono l32
  have kQ := kQ.mono l32
  have kONE := kONE.mono l32
  have kZERO := kZERO.mono l32
  have kLESS := kLESS.mono l32
  have kNONE := kNONE.mono l32
  have kNIL := kNIL.mono l32
  refine G.call0 _ _ (by kernel_rfl) Tryz.call16 (same0 kNIL (cofP_num _ 0) (by omega)) ?_
  rintro v33 u33 l33 rfl
  have ht33 := ht32.mono l33
  have cF := cF.mono l33
  have cH := cH.mono l33
  have cE := cE.mono l33
  have kAB := kAB.mono l33
  have kBA := kBA.mono l33
  have kX := kX.mono l33
  have kAC := kAC.mono l33
  have kBC := kBC.mono l33
  have kY := kY.mono l33
  have kCA := kCA.mono l33
  have kP := kP.mono l33
  have kQ := kQ.mono l33
  have kONE := kONE.mono l33
  have kZERO := kZERO.mono l33
  have kLESS := kLESS.mono l33
  have kNONE := kNONE.mono l33
  have kNIL := kNIL.mono l33
  refine G.call0 _ _ (by kernel_rfl) Tryz.call33 (valid0 kX sx ((vF.add vH).mul vE) (by omega)) ?_
  rintro v34 u34 l34 rfl
  have ht34 := ht33.mono l34
  have cF := cF.mono l34
  have cH := cH.mono l34
  have cE := cE.mono l34
  have kAB := kAB.mono l34
  have kBA := kBA.mono l34
  have kX := kX.mono l34
  have kAC := kAC.mono l34
  have kBC := kBC.mono l34
  have kY := kY.mono l34
  have kCA := kCA.mono l34
  have kP := kP.mono l34
  have kQ := kQ.mono l34
  have kONE := kONE.mono l34
  have kZERO := kZERO.mono l34
  have kLESS := kLESS.mono l34
  have kNONE := kNONE.mono l34
  have kNIL := kNIL.mono l34
  refine G.call0 _ _ (by kernel_rfl) Tryz.call33 (valid0 kP sp ((vF.mul vE).mul vH) (by omega)) ?_
  rintro v35 u35 l35 rfl
  have ht35 := ht34.mono l35
  have cF := cF.mono l35
  have cH := cH.mono l35
  have cE := cE.mono l35
  have kAB := kAB.mono l35
  have kBA := kBA.mono l35
  have kX := kX.mono l35
  have kAC := kAC.mono l35
  have kBC := kBC.mono l35
  have kY := kY.mono l35
  have kCA := kCA.mono l35
  have kP := kP.mono l35
  have kQ := kQ.mono l35
  have kONE := kONE.mono l35
  have kZERO := kZERO.mono l35
  have kLESS := kLESS.mono l35
  have kNONE := kNONE.mono l35
  have kNIL := kNIL.mono l35
  refine G.call0 _ _ (by kernel_rfl) Tryz.call8 (sane0 ht35) ?_
  rintro v36 u36 l36 rfl
  refine G.drop PH.mt (by kernel_rfl) (PH.mt_le _) ?_
  exact G.ret (.bool true) (by kernel_rfl) ⟨rfl, rfl⟩
end Go.Proofs.YtikfmknnbjocmaaGreatDoor
end
