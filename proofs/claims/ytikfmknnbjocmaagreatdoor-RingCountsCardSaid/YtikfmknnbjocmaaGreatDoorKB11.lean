/- Joined out of parts of one proof by a program: contracts of the functions that the statement reaches, and the plain facts behind them. -/
import Derived.Test.YtikfmknnbjocmaaGreatDoorKB10
set_option linter.unusedVariables false
set_option linter.unusedSimpArgs false
set_option linter.unusedSectionVars false
section
set_option linter.unusedSectionVars false
set_option linter.unusedVariables false
namespace Go.Proofs.YtikfmknnbjocmaaGreatDoor
open Go.RowKit Go.MapKept
theorem cfv_num (q : Rat) : CFV (CF.num q) := CFV.count q
theorem cfd_num {d N : Nat} {q : Rat} (h : Dn d N q) : CFD d N (CF.num q) := CFD.count h
theorem scale_num (F : CF) (q : Rat) : F.mul (CF.num q) = F.scale q := (CF.scale_mul F q).symm
theorem scale_zero' (F : CF) : F.scale 0 = CF.num 0 := CF.ext' (by simp only [CF.scale, CF.num]; grind) (fun p => by simp only [CF.scale, CF.num]; grind) (fun q => by simp only [CF.scale, CF.num]; grind)
theorem pw {n : Nat} (h : n < 10 ^ 30) : n < 10 ^ 100 := Nat.lt_of_lt_of_le h (by decide +kernel)
set_option maxHeartbeats 8000000 in
theorem ringScales0 {u : PH} {v : Value} {ts : List Int} (ht : TabU u) (hv : ListP u v 1 (intsZ ts)) (hlo : ∀ t ∈ ts, -9223372036854775808 ≤ t) (hhi : ∀ t ∈ ts, t ≤ 9223372036854775807) :
    Fn0 Tryz.prog 4 [v] u fun v' _ => v' = .bool true := by
  obtain ⟨a, c, rfl⟩ := hv.opn
  rw [intsZ_length] at hv ⊢
  refine Fn0.of Tryz.func4 (by kernel_rfl) (by kernel_rfl) ?_
  by_cases h400 : 400 < ts.length
  · refine G.gtrT (ts.length : Int) 400 (by kernel_rfl) (by omega) ?_
    refine G.call0 _ _ (by kernel_rfl) Tryz.call8 (sane0 ht) ?_
    rintro v1 u1 l1 rfl
    exact G.ret (.bool true) (by kernel_rfl) ⟨rfl, rfl⟩
  refine G.gtrF (ts.length : Int) 400 (by kernel_rfl) (by omega) ?_
  refine G.callO _ _ (by kernel_rfl) Tryz.call9 (srcNew0 hv (by omega) hlo hhi) ?_
  rintro v1 u1 m1 l1 ⟨s, rfl, rfl, hs⟩ _
  rw [mt_or]
  refine G.callA _ _ (by kernel_rfl) (by kernel_rfl) Tryz.call21 (mt_or _).symm (apart_mt _) (srcCof0 hs (Nat.zero_le _)) ?_
  rintro v2 u2 m2 l2 ⟨F, k2, cF, dF, vF, hk2, rfl⟩ _
  rw [mt_or]
  obtain ⟨a1, n1, c1, a1', n1', c1', rfl⟩ := cF.opn
  refine G.callA _ _ (by kernel_rfl) (by kernel_rfl) Tryz.call21 (mt_or _).symm (apart_mt _) (srcCof0 (hs.mono l2) hk2) ?_
  rintro v3 u3 m3 l3 ⟨H, k3, cH, dH, vH, hk3, rfl⟩ _
  rw [mt_or]
  obtain ⟨a2, n2, c2, a2', n2', c2', rfl⟩ := cH.opn
  refine G.callA _ _ (by kernel_rfl) (by kernel_rfl) Tryz.call22 (mt_or _).symm (apart_mt _) (srcRat0 (hs.mono (l2.trans l3)) hk3) ?_
  rintro v4 u4 m4 l4 ⟨q, k4, rfl, hq, hk4, rfl⟩ _
  rw [mt_or]
  have ht4 := ht.mono (((l1.trans l2).trans l3).trans l4)
  have cF4 := cF.mono (l3.trans l4)
  have cH4 := cH.mono l4
  have sF : CFS F := dF.cfs (by omega) (pw (by decide +kernel))
  have sH : CFS H := dH.cfs (by omega) (pw (by decide +kernel))
  have sq : SB q := hq.dn.small (by omega) (pw (by decide +kernel))
  have dx := dF.scale hq.dn
  have sx : CFS (F.scale q) := dx.cfs (by omega) (pw (by decide +kernel))
  have dab := dF.mul dH
  have sab : CFS (F.mul H) := dab.cfs (by omega) (pw (by decide +kernel))
  have du := dab.scale hq.dn
  have su : CFS ((F.mul H).scale q) := du.cfs (by omega) (pw (by decide +kernel))
  refine G.call0 _ _ (by kernel_rfl) Tryz.call23 (ringScale0 ht4 cF4 vF sF sq sx (by omega)) ?_
  rintro v5 u5 l5 ⟨w5, rfl, k5⟩
  obtain ⟨a5, n5, c5, a5', n5', c5', rfl⟩ := k5.opn
  refine G.call0 _ _ (by kernel_rfl) Tryz.call15 (ringMul0 (ht4.mono l5) (cF4.mono l5) (cofP_num u5 q) vF (cfv_num q) (mulOK dF (cfd_num hq.dn) (by omega) (pw (by decide +kernel)) (by omega) (by omega)) (by rw [scale_num]; exact sx) (by omega) (by omega)) ?_
  rintro v6 u6 l6 ⟨w6, rfl, k6⟩
  obtain ⟨a6, n6, c6, a6', n6', c6', rfl⟩ := k6.opn
  refine G.call0 _ _ (by kernel_rfl) Tryz.call15 (ringMul0 (ht4.mono (l5.trans l6)) (cF4.mono (l5.trans l6)) (cH4.mono (l5.trans l6)) vF vH (mulOK dF dH (by omega) (pw (by decide +kernel)) (by omega) (by omega)) sab (by omega) (by omega)) ?_
  rintro v7 u7 l7 ⟨w7, rfl, k7⟩
  obtain ⟨a7, n7, c7, a7', n7', c7', rfl⟩ := k7.opn
  refine G.call0 _ _ (by kernel_rfl) Tryz.call23 (ringScale0 (ht4.mono ((l5.trans l6).trans l7)) k7 (vF.mul vH) sab sq su (by omega)) ?_
  rintro v8 u8 l8 ⟨w8, rfl, k8⟩
  obtain ⟨a8, n8, c8, a8', n8', c8', rfl⟩ := k8.opn
  refine G.call0 _ _ (by kernel_rfl) Tryz.call15 (ringMul0 (ht4.mono (((l5.trans l6).trans l7).trans l8)) (k5.mono ((l6.trans l7).trans l8)) (cH4.mono (((l5.trans l6).trans l7).trans l8)) (vF.scale q) vH (mulOK dx dH (by omega) (pw (by decide +kernel)) (by omega) (by omega)) (by rw [← CF.mul_scale]; exact su) (by omega) (by omega)) ?_
  rintro v9 u9 l9 ⟨w9, rfl, k9⟩
  obtain ⟨a9, n9, c9, a9', n9', c9', rfl⟩ := k9.opn
  have le9 := ((((l5.trans l6).trans l7).trans l8).trans l9)
  have hz := ringScale0 (ht4.mono le9) (cF4.mono le9) vF sF SB.zero (by rw [scale_zero']; exact (cfd_num (Dn.zero 0 1)).cfs (by omega) (pw (by decide +kernel))) (by omega)
  rw [ratT_zero] at hz
  refine G.call0 _ _ (by kernel_rfl) Tryz.call23 hz ?_
  rintro v10 u10 l10 ⟨w10, rfl, k10⟩
  obtain ⟨a10, n10, c10, a10', n10', c10', rfl⟩ := k10.opn
  have k5' := k5.mono ((((l6.trans l7).trans l8).trans l9).trans l10)
  have k6' := k6.mono (((l7.trans l8).trans l9).trans l10)
  have k8' := k8.mono (l9.trans l10)
  have k9' := k9.mono l10
  rw [scale_num] at k6' ⊢
  rw [← CF.mul_scale] at k9' ⊢
  rw [scale_zero'] at k10 ⊢
  refine G.eqlT 0 0 (by kernel_rfl) (by omega) ?_
  refine G.eqlT 0 0 (by kernel_rfl) (by omega) ?_
  refine G.eqlT 0 0 (by kernel_rfl) (by omega) ?_
  refine G.eqlT 0 0 (by kernel_rfl) (by omega) ?_
  refine G.eqlT 0 0 (by kernel_rfl) (by omega) ?_
  refine G.eqlT 0 0 (by kernel_rfl) (by omega) ?_
  refine G.call0 _ _ (by kernel_rfl) Tryz.call16 (same0 k5' k6' (by omega)) ?_
  rintro v11 u11 l11 rfl
  refine G.call0 _ _ (by kernel_rfl) Tryz.call16 (same0 (k8'.mono l11) (k9'.mono l11) (by omega)) ?_
  rintro v12 u12 l12 rfl
  refine G.call0 _ _ (by kernel_rfl) Tryz.call17 ringZero0 ?_
  rintro v13 u13 l13 rfl
  refine G.call0 _ _ (by kernel_rfl) Tryz.call16 (same0 (k10.mono ((l11.trans l12).trans l13)) (cofP_num u13 0) (by omega)) ?_
  rintro v14 u14 l14 rfl
  refine G.call0 _ _ (by kernel_rfl) Tryz.call8 (sane0 (ht4.mono (le9.trans ((((l10.trans l11).trans l12).trans l13).trans l14)))) ?_
  rintro v15 u15 l15 rfl
  refine G.drop PH.mt (by kernel_rfl) (PH.mt_le _) ?_
  exact G.ret (.bool true) (by kernel_rfl) ⟨rfl, rfl⟩
end Go.Proofs.YtikfmknnbjocmaaGreatDoor
end
section
set_option linter.unusedSectionVars false
set_option linter.unusedVariables false
namespace Go.Proofs.YtikfmknnbjocmaaGreatDoor
open Go.RowKit Go.MapKept
theorem refMulT {u : PH} {q r : Rat} (h : Tx q) (h' : Tx r) (h2 : Tx (q * r)) : Fn0 Tryz.prog 19 [.string (mkS (ratT q)), .string (mkS (ratT r))] u fun v _ => v = .tuple #[.string (mkS (ratT (q * r))), .int .i64 0] := by
  refine Fn0.of Tryz.func19 (by kernel_rfl) (by kernel_rfl) ?_
  refine G.call0 _ _ (by kernel_rfl) Tryz.call49 (refValid0 h) ?_
  rintro v1 u1 l1 rfl
  refine G.call0 _ _ (by kernel_rfl) Tryz.call49 (refValid0 h') ?_
  rintro v2 u2 l2 rfl
  refine G.call0 _ _ (by kernel_rfl) Tryz.call27 (refReadT h) ?_
  intro v3 u3 l3 k3
  obtain ⟨b3, a3, n3, c3, a3', n3', c3', rfl, _⟩ := k3.opn
  refine G.call0 _ _ (by kernel_rfl) Tryz.call27 (refReadT h') ?_
  intro v4 u4 l4 k4
  obtain ⟨b4, a4, n4, c4, a4', n4', c4', rfl, _⟩ := k4.opn
  refine G.call0 _ _ (by kernel_rfl) Tryz.call29 (refMul0 (k3.mono l4) k4 (h.sz.mono (by omega)) (h'.sz.mono (by omega))) ?_
  intro v5 u5 l5 k5
  obtain ⟨b5, a5, n5, c5, a5', n5', c5', rfl, _⟩ := k5.opn
  refine G.call0 _ _ (by kernel_rfl) Tryz.call31 (refGive0 k5 h2) ?_
  rintro v6 u6 l6 rfl
  exact G.ret _ (by kernel_rfl) ⟨rfl, rfl⟩
theorem num_add (q r : Rat) : (CF.num q).add (CF.num r) = CF.num (q + r) := CF.ext' rfl (fun p => by simp only [CF.add, CF.num]; grind) (fun p => by simp only [CF.add, CF.num]; grind)
theorem num_mul (q r : Rat) : (CF.num q).mul (CF.num r) = CF.num (q * r) := by
  rw [scale_num]
  exact CF.ext' rfl (fun p => by simp only [CF.scale, CF.num]; grind) (fun p => by simp only [CF.scale, CF.num]; grind)
set_option maxHeartbeats 8000000 in
theorem ringCounts0 {u : PH} {v : Value} {ts : List Int} (ht : TabU u) (hv : ListP u v 1 (intsZ ts)) (hlo : ∀ t ∈ ts, -9223372036854775808 ≤ t) (hhi : ∀ t ∈ ts, t ≤ 9223372036854775807) :
    Fn0 Tryz.prog 5 [v] u fun v' _ => v' = .bool true := by
  obtain ⟨a, c, rfl⟩ := hv.opn
  rw [intsZ_length] at hv ⊢
  refine Fn0.of Tryz.func5 (by kernel_rfl) (by kernel_rfl) ?_
  by_cases h400 : 400 < ts.length
  · refine G.gtrT (ts.length : Int) 400 (by kernel_rfl) (by omega) ?_
    refine G.call0 _ _ (by kernel_rfl) Tryz.call8 (sane0 ht) ?_
    rintro v1 u1 l1 rfl
    exact G.ret (.bool true) (by kernel_rfl) ⟨rfl, rfl⟩
  refine G.gtrF (ts.length : Int) 400 (by kernel_rfl) (by omega) ?_
  refine G.callO _ _ (by kernel_rfl) Tryz.call9 (srcNew0 hv (by omega) hlo hhi) ?_
  rintro v1 u1 m1 l1 ⟨s, rfl, rfl, hs⟩ _
  rw [mt_or]
  refine G.callA _ _ (by kernel_rfl) (by kernel_rfl) Tryz.call22 (mt_or _).symm (apart_mt _) (srcRat0 hs (Nat.zero_le _)) ?_
  rintro v2 u2 m2 l2 ⟨q, k2, rfl, hq, hk2, rfl⟩ _
  rw [mt_or]
  refine G.callA _ _ (by kernel_rfl) (by kernel_rfl) Tryz.call22 (mt_or _).symm (apart_mt _) (srcRat0 (hs.mono l2) hk2) ?_
  rintro v3 u3 m3 l3 ⟨r, k3, rfl, hr, hk3, rfl⟩ _
  rw [mt_or]
  have ht3 := ht.mono ((l1.trans l2).trans l3)
  have hs3 := hs.mono (l2.trans l3)
  have dq : CFD 1 108 (CF.num q) := cfd_num hq.dn
  have dr : CFD 1 108 (CF.num r) := cfd_num hr.dn
  have sq : CFS (CF.num q) := dq.cfs (by omega) (pw (by decide +kernel))
  have sr : CFS (CF.num r) := dr.cfs (by omega) (pw (by decide +kernel))
  have ss : CFS ((CF.num q).add (CF.num r)) := (dq.add dr).cfs (by omega) (pw (by decide +kernel))
  have sm : CFS ((CF.num q).mul (CF.num r)) := (dq.mul dr).cfs (by omega) (pw (by decide +kernel))
  have om : MulOK (CF.num q) (CF.num r) := mulOK dq dr (by omega) (pw (by decide +kernel)) (by omega) (by omega)
  refine G.call0 _ _ (by kernel_rfl) Tryz.call24 (ringAdd0 ht3 (cofP_num u3 q) (cofP_num u3 r) (cfv_num q) (cfv_num r) sq sr ss (by omega) (by omega)) ?_
  rintro v4 u4 l4 ⟨w4, rfl, kS⟩
  obtain ⟨a4, n4, e4, a4', n4', e4', rfl⟩ := kS.opn
  refine G.call0 _ _ (by kernel_rfl) Tryz.call15 (ringMul0 (ht3.mono l4) (cofP_num u4 q) (cofP_num u4 r) (cfv_num q) (cfv_num r) om sm (by omega) (by omega)) ?_
  rintro v5 u5 l5 ⟨w5, rfl, kM⟩
  obtain ⟨a5, n5, e5, a5', n5', e5', rfl⟩ := kM.opn
  rw [num_add] at kS ⊢ ss
  rw [num_mul] at kM ⊢ sm
  refine G.call0 _ _ (by kernel_rfl) Tryz.call25 (refAddT hq.tx hr.tx (SB.tx ss.c)) ?_
  rintro v6 u6 l6 rfl
  refine G.call0 _ _ (by kernel_rfl) Tryz.call19 (refMulT hq.tx hr.tx (SB.tx sm.c)) ?_
  rintro v7 u7 l7 rfl
  have hs7 := (((hs3.mono l4).mono l5).mono l6).mono l7
  have ht7 := (((ht3.mono l4).mono l5).mono l6).mono l7
  refine G.callA _ _ (by kernel_rfl) (by kernel_rfl) Tryz.call21 (mt_or _).symm (apart_mt _) (srcCof0 hs7 hk3) ?_
  rintro v8 u8 m8 l8 ⟨F, k8, cF, dF, vF, hk8, rfl⟩ _
  rw [mt_or]
  obtain ⟨a8, n8, e8, a8', n8', e8', rfl⟩ := cF.opn
  refine G.callA _ _ (by kernel_rfl) (by kernel_rfl) Tryz.call21 (mt_or _).symm (apart_mt _) (srcCof0 (hs7.mono l8) hk8) ?_
  rintro v9 u9 m9 l9 ⟨H, k9, cH, dH, vH, hk9, rfl⟩ _
  rw [mt_or]
  obtain ⟨a9, n9, e9, a9', n9', e9', rfl⟩ := cH.opn
  have ht9 := (ht7.mono l8).mono l9
  have sF : CFS F := dF.cfs (by omega) (pw (by decide +kernel))
  have sH : CFS H := dH.cfs (by omega) (pw (by decide +kernel))
  have sp : CFS (F.mul H) := (dF.mul dH).cfs (by omega) (pw (by decide +kernel))
  refine G.call0 _ _ (by kernel_rfl) Tryz.call15 (ringMul0 ht9 (cF.mono l9) cH vF vH (mulOK dF dH (by omega) (pw (by decide +kernel)) (by omega) (by omega)) sp (by omega) (by omega)) ?_
  rintro v10 u10 l10 ⟨w10, rfl, kP⟩
  obtain ⟨a10, n10, e10, a10', n10', e10', rfl⟩ := kP.opn
  refine G.call0 _ _ (by kernel_rfl) Tryz.call19 (refMulT (SB.tx sF.c) (SB.tx sH.c) (SB.tx sp.c)) ?_
  rintro v11 u11 l11 rfl
  refine G.eqlT 0 0 (by kernel_rfl) (by omega) ?_
  refine G.eqlT 0 0 (by kernel_rfl) (by omega) ?_
  refine G.eqlT 0 0 (by kernel_rfl) (by omega) ?_
  have kS' := ((((((kS.mono l5).mono l6).mono l7).mono l8).mono l9).mono l10).mono l11
  have kM' := (((((kM.mono l6).mono l7).mono l8).mono l9).mono l10).mono l11
  refine G.call0 _ _ (by kernel_rfl) Tryz.call16 (same0 kS' (cofP_num u11 (q + r)) (by omega)) ?_
  rintro v12 u12 l12 rfl
  refine G.call0 _ _ (by kernel_rfl) Tryz.call16 (same0 (kM'.mono l12) (cofP_num u12 (q * r)) (by omega)) ?_
  rintro v13 u13 l13 rfl
  refine G.eqST (ratT (F.mul H).c) (ratT (F.c * H.c)) (by kernel_rfl) rfl ?_
  refine G.call0 _ _ (by kernel_rfl) Tryz.call8 (sane0 ((((ht9.mono l10).mono l11).mono l12).mono l13)) ?_
  rintro v14 u14 l14 rfl
  refine G.drop PH.mt (by kernel_rfl) (PH.mt_le _) ?_
  exact G.ret (.bool true) (by kernel_rfl) ⟨rfl, rfl⟩
end Go.Proofs.YtikfmknnbjocmaaGreatDoor
end
