/- Joined out of parts of one proof by a program: contracts of the functions that the statement reaches, and the plain facts behind them. -/
import Derived.Test.YtpdboaedoimahaaGreatDoorKB10
set_option linter.unusedVariables false
set_option linter.unusedSimpArgs false
set_option linter.unusedSectionVars false
section
set_option linter.unusedSectionVars false
set_option linter.unusedVariables false
namespace Go.Proofs.YtpdboaedoimahaaGreatDoor
open Go.RowKit Go.MapKept
set_option maxHeartbeats 8000000 in
theorem encodeCounts0 {u : PH} {v : Value} {ts : List Int} (ht : TabU u) (hv : ListP u v 1 (intsZ ts)) (hlo : ∀ t ∈ ts, -9223372036854775808 ≤ t) (hhi : ∀ t ∈ ts, t ≤ 9223372036854775807) :
    Fn0 Tryz.prog 5 [v] u fun v' _ => v' = .bool true := by
  obtain ⟨a, c, rfl⟩ := hv.opn
  rw [intsZ_length] at hv ⊢
  refine Fn0.of Tryz.func5 (by kernel_rfl) (by kernel_rfl) ?_
  by_cases h400 : 400 < ts.length
  · refine G.gtrT (ts.length : Int) 400 (by kernel_rfl) (by omega) ?_
    refine G.call0 _ _ (by kernel_rfl) Tryz.call6 sane12 ?_
    rintro v1 u1 l1 rfl
    exact G.ret (.bool true) (by kernel_rfl) ⟨rfl, rfl⟩
  refine G.gtrF (ts.length : Int) 400 (by kernel_rfl) (by omega) ?_
  refine G.callO _ _ (by kernel_rfl) Tryz.call7 (srcNew0 hv (by omega) hlo hhi) ?_
  rintro v1 u1 m1 l1 ⟨s, rfl, rfl, hs⟩ _
  rw [mt_or]
  refine G.callA _ _ (by kernel_rfl) (by kernel_rfl) Tryz.call8 (mt_or _).symm (apart_mt _) (srcSchema0 6 (by omega) (by omega) hs (Nat.zero_le _)) ?_
  rintro v2 u2 m2 l2 ⟨T, R, F, lab, k2, hX, ok, hT6, hk2, rfl⟩ _
  rw [mt_or]
  obtain ⟨xa, xc, xb, xd, xe, xf, rfl, hTL, hRL, hFL⟩ := id hX
  refine G.callA _ _ (by kernel_rfl) (by kernel_rfl) Tryz.call15 (mt_or _).symm (apart_mt _) (srcTuple0 (w := .slice xb R.length xd) (x := .slice xe F.length xf) (y := .int .i64 lab) (hs.mono l2) hk2 hTL (by omega) ok.att.kind ⟨_, _, _, rfl⟩ ⟨_, _, _, rfl⟩ ⟨_, rfl⟩) ?_
  rintro v3 u3 m3 l3 ⟨ss, k3, hS, hSl, hSv, hk3, rfl⟩ _
  rw [mt_or]
  obtain ⟨ya, yc, rfl⟩ := hS.opn
  rw [List.length_map] at hS ⊢
  refine G.drop PH.mt (by kernel_rfl) (PH.mt_le _) ?_
  have ht3 := ht.mono ((l1.trans l2).trans l3)
  have hT : TupOK T ss := ⟨hSl, hSv⟩
  have hP : TupP u3 (.agg #[.slice xa T.length xc, .slice xb R.length xd, .slice xe F.length xf, .int .i64 lab]) (.slice ya ss.length yc) T R F lab ss := ⟨hX.mono l3, ok.mono l3, hS, hT⟩
  have hfeat := ok.feat
  have hl1 := ok.l1
  have hf8 := ok.f2
  have hlt := hP.lt
  have hval := hP.lab
  have hcof := encCof0 ht3 hP (by omega)
  have hvec := fun (u' : PH) (l : PH.le u3 u') => encVector0 (hP.mono l)
  have hlab := fun (u' : PH) (l : PH.le u3 u') => encLabel0 (hP.mono l)
  have hcnt := fun (u' : PH) (l : PH.le u3 u') => encCounts0 (hP.mono l)
  clear hP hX hTL hRL hFL hS ok hv
  refine G.call0 _ _ (by kernel_rfl) Tryz.call16 hcof ?_
  rintro v4 u4 l4 ⟨r4, rfl, k4⟩
  obtain ⟨A, Q, a1, c1, a2, c2, rfl, hA, hQ, cA, cQ, kA, kQ⟩ := id k4
  refine G.call0 _ _ (by kernel_rfl) Tryz.call14 (hvec u4 l4) ?_
  rintro v5 u5 l5 ⟨lv, rfl, hlv⟩
  obtain ⟨va, vc, rfl⟩ := hlv.opn
  rw [List.length_map] at hlv ⊢
  refine G.call0 _ _ (by kernel_rfl) Tryz.call18 (hlab u5 (l4.trans l5)) ?_
  rintro v6 u6 l6 h6
  obtain ⟨y, ok6, rfl, hok6⟩ : ∃ (y : List UInt8) (b : Bool), v6 = .tuple #[.string (mkS y), .bool b] ∧ ((lab < 0 ∨ ss.getD lab.toNat [] = []) ∨ (b = true ∧ y = ss.getD lab.toNat [])) := by
    split at h6
    · rename_i hc; exact ⟨_, _, h6, .inl hc⟩
    · exact ⟨_, _, h6, .inr ⟨rfl, rfl⟩⟩
  clear h6
  refine G.neqF 0 0 (by kernel_rfl) (by omega) ?_
  refine G.neqF 0 0 (by kernel_rfl) (by omega) ?_
  have le6 := (l4.trans l5).trans l6
  refine G.call0 _ _ (by kernel_rfl) Tryz.call12 (hcnt u6 le6) ?_
  rintro v7 u7 l7 rfl
  have k7 := k4.mono ((l5.trans l6).trans l7)
  cases hc : cntB F lab ss with
  | false =>
    rw [cfT_no hfeat hT hl1 hlt hc] at k7 ⊢
    refine G.call0 _ _ (by kernel_rfl) Tryz.call20 refZero10 ?_
    rintro v8 u8 l8 rfl
    refine G.call0 _ _ (by kernel_rfl) Tryz.call19 (refSameC0 (k7.mono l8) (cofP_num u8 0) (by omega)) ?_
    rintro v9 u9 l9 rfl
    refine G.call0 _ _ (by kernel_rfl) Tryz.call6 sane12 ?_
    rintro v10 u10 l10 rfl
    exact G.ret (.bool true) (by kernel_rfl) ⟨rfl, rfl⟩
  | true =>
    have hone := cfT_one hfeat hT hl1 hlt hc
    have hcount := vec_count hfeat hT hl1 hlt (fun l hl h0 => (hval l hl h0).2) hc cA
    have hsum : ∀ (p : Par) (u' : PH), PH.le u7 u' → Fn0 Tryz.prog 17 [.agg #[.string (mkS (ratT (cfT F lab ss).c)), .slice a1 A.length c1, .slice a2 Q.length c2], parV p] u' fun r _ => r = .string (mkS (ratT ((cfT F lab ss).s p))) := fun p u' l => refSum0 p (k7.mono l) (by omega)
    have hlabne : ∀ l : Nat, lab = (l : Int) → ss.getD l [] ≠ [] := fun l hl e => by
      unfold cntB at hc
      rw [hl, Int.toNat_natCast, e] at hc
      simp at hc
    refine G.join (ι := Nat) (.bool false) (fun n => [(6, .p 6006 0), (8, .v (.slice va (vecL F ss F.length).length vc)), (12, .v (.int .i64 (n : Int)))])
      (fun _ => [(6006, ⟨38, [.v (.string (mkS (ratT (cfT F lab ss).c))), .v (.slice a1 A.length c1), .v (.slice a2 Q.length c2)]⟩)])
      (fun n u' m' => m' = PH.mt ∧ n = A.length) (fun _ => by kernel_rfl) (by kernel_rfl) ?tail ?way
    case way =>
      intro hjoin
      by_cases hneg : lab < 0
      · refine G.geqF lab 0 (by kernel_rfl) (by omega) ?_
        have hlE : labE lab ss = [] := by unfold labE; rw [if_neg (fun e => by omega)]
        rw [hlE] at hcount
        exact hjoin (vecL F ss F.length).length _ _ _ (by kernel_rfl) ⟨by kernel_rfl, by kernel_rfl, by kernel_rfl⟩ (PH.le_refl _) ⟨rfl, by rw [hcount]; simp⟩
      · obtain ⟨l, rfl⟩ : ∃ l : Nat, lab = (l : Int) := ⟨lab.toNat, by omega⟩
        have hne := hlabne l rfl
        obtain ⟨q1, q2⟩ := hval l rfl hne
        have hLl := lifts_lab (F := F) (ss := ss) rfl (hlt l rfl)
        unfold labO at hLl
        rw [if_neg hne] at hLl
        have hs1 := cfT_at hfeat hT hl1 hlt hc hLl
        rw [Int.toNat_natCast] at hok6
        obtain ⟨rfl, rfl⟩ : ok6 = true ∧ y = ss.getD l [] := hok6.resolve_left (fun e => e.elim (by omega) hne)
        refine G.geqT (l : Int) 0 (by kernel_rfl) (by omega) ?_
        refine G.call0 _ _ (by kernel_rfl) Tryz.call17 (hsum (-1, []) u7 (PH.le_refl _)) ?_
        rintro v8 u8 l8 rfl
        rw [hs1, q2]
        refine G.neSF (ss.getD l []) (ss.getD l []) (by kernel_rfl) rfl ?_
        by_cases h48 : ss.getD l [] = [48]
        · refine G.neSF (ss.getD l []) [48] (by kernel_rfl) h48 ?_
          have hlE : labE (l : Int) ss = [] := by unfold labE; rw [Int.toNat_natCast, if_neg (fun e => e.2 h48)]
          rw [hlE] at hcount
          exact hjoin (vecL F ss F.length).length _ _ _ (by kernel_rfl) ⟨by kernel_rfl, by kernel_rfl, by kernel_rfl⟩ l8 ⟨rfl, by rw [hcount]; simp⟩
        · refine G.neST (ss.getD l []) [48] (by kernel_rfl) h48 ?_
          have hlE : (labE (l : Int) ss).length = 1 := by unfold labE; rw [Int.toNat_natCast, if_pos ⟨by omega, h48⟩]; rfl
          rw [hlE] at hcount
          have hvl := vecL_len F ss F.length
          refine G.add ((vecL F ss F.length).length : Int) 1 (((vecL F ss F.length).length + 1 : Nat) : Int) (by kernel_rfl) (by omega) (by omega) (by omega) ?_
          exact hjoin ((vecL F ss F.length).length + 1) _ _ _ (by kernel_rfl) ⟨by kernel_rfl, by kernel_rfl, by kernel_rfl⟩ l8 ⟨rfl, by omega⟩
    rintro n u8 m8 l8 ⟨rfl, rfl⟩
    have le8 : PH.le u5 u8 := (l6.trans l7).trans l8
    refine G.loop (ι := Nat) (fun i => [(6, .p 6006 0), (12, .v (.int .i64 (A.length : Int))), (78, .v (.slice va (vecL F ss F.length).length vc)), (79, .v (.int .i64 ((vecL F ss F.length).length : Int))), (80, .v (.int .i64 (i : Int)))])
      (fun _ => [(6006, ⟨38, [.v (.string (mkS (ratT (cfT F lab ss).c))), .v (.slice a1 A.length c1), .v (.slice a2 Q.length c2)]⟩)])
      (fun i u' m' => i ≤ (vecL F ss F.length).length ∧ m' = PH.mt) (fun i => (vecL F ss F.length).length - i) 0 (by kernel_rfl) (fun _ => by kernel_rfl) ⟨by kernel_rfl, by kernel_rfl, by kernel_rfl⟩ ⟨by omega, rfl⟩ ?_
    rintro J i hJ u9 m9 l9 ⟨hi, rfl⟩
    by_cases hil : i < (vecL F ss F.length).length
    · refine G.lssT (i : Int) ((vecL F ss F.length).length : Int) (by kernel_rfl) (by omega) ?_
      obtain ⟨x, hvi⟩ : ∃ x, (vecL F ss F.length)[i]? = some x := ⟨_, List.getElem?_eq_getElem hil⟩
      have hmem := List.mem_of_getElem? hvi
      have hvl := vecL_len F ss F.length
      obtain ⟨hx0, al, hxl⟩ := vecL_lift hfeat hT hmem
      have hsx := cfT_at (p := x.1) (q := x.2) hfeat hT hl1 hlt hc hxl
      obtain ⟨ba, oa, rfl, ea⟩ := ListP.at' (hlv.mono (le8.trans l9)) (j := i) (e := termV x) (by simp [hvi])
      obtain ⟨⟨x1, x2⟩, x3⟩ := x
      simp only at hx0
      refine G.addr ba oa (vecL F ss F.length).length vc i 3 (by kernel_rfl) (by omega) ?_
      refine G.loadU (some 3) ba (oa + i * 3) (.agg #[.int .i64 x1, .string (mkS x2), .string (mkS (ratT x3))]) (by kernel_rfl) (by kernel_rfl) ea ?_
      refine G.eqSF (ratT x3) [48] (by kernel_rfl) (ratT_ne0 hx0) ?_
      refine G.call0 _ _ (by kernel_rfl) Tryz.call17 (hsum (x1, x2) u9 (l8.trans l9)) ?_
      rintro v10 u10 l10 rfl
      rw [hsx]
      refine G.neSF (ratT x3) (ratT x3) (by kernel_rfl) rfl ?_
      refine G.add (i : Int) 1 ((i + 1 : Nat) : Int) (by kernel_rfl) (by omega) (by omega) (by omega) ?_
      exact G.back (by kernel_rfl) (hJ (i + 1) _ _ _ ⟨by kernel_rfl, by kernel_rfl, by kernel_rfl⟩ (l9.trans l10) ⟨by omega, rfl⟩ (by omega))
    obtain rfl : i = (vecL F ss F.length).length := by omega
    refine G.lssF ((vecL F ss F.length).length : Int) ((vecL F ss F.length).length : Int) (by kernel_rfl) (by omega) ?_
    refine G.eqST (ratT (cfT F lab ss).c) [49] (by kernel_rfl) (by rw [hone.c, ratT_one]) ?_
    refine G.eqlT (A.length : Int) (A.length : Int) (by kernel_rfl) rfl ?_
    refine G.call0 _ _ (by kernel_rfl) Tryz.call6 sane12 ?_
    rintro v10 u10 l10 rfl
    exact G.ret (.bool true) (by kernel_rfl) ⟨rfl, rfl⟩
end Go.Proofs.YtpdboaedoimahaaGreatDoor
end
