/- Joined out of parts of one proof by a program: contracts of the functions that the statement reaches, and the plain facts behind them. -/
import Derived.Test.YtikfmknnbjocmaaGreatDoorKL09
set_option linter.unusedVariables false
set_option linter.unusedSimpArgs false
set_option linter.unusedSectionVars false
section
set_option linter.unusedSectionVars false
set_option linter.unusedVariables false
namespace Go.Proofs.YtikfmknnbjocmaaGreatDoor
open Go.RowKit Go.MapKept
theorem bIndex0 {u m : PH} {b n c : Nat} {L : List Bool} (hn : n = L.length) (hl : n ≤ 1000000) (hE : ∀ (j : Nat) s, L[j]? = some s → ElP m b (0 + j * 1) (.bool s)) (hx : ∀ s ∈ L, s = true) :
    FnK Tryz.prog 156 [.slice (some ⟨b, 0, none⟩) n c, .bool false] u m fun v _ => v = .int .i64 (-1) := by
  refine FnK.of Tryz.func156 (by kernel_rfl) (by kernel_rfl) ?_
  refine G.loop (ι := Nat) (fun i => [(0, .v (.slice (some ⟨b, 0, none⟩) n c)), (1, .v (.bool false)), (7, .v (.int .i64 (n : Int))), (8, .v (.int .i64 (i : Int)))]) (fun _ => [])
    (fun i u' m' => i ≤ n ∧ m' = m) (fun i => n - i) 0 (by kernel_rfl) (fun _ => by kernel_rfl) ⟨by kernel_rfl, by kernel_rfl, by kernel_rfl⟩ ⟨by omega, rfl⟩ ?_
  rintro J i hJ u1 m1 l1 ⟨hi, rfl⟩
  by_cases hlt : i < n
  · refine G.lssT (i : Int) (n : Int) (by kernel_rfl) (by omega) ?_
    have hTi : L[i]? = some true := by
      rw [List.getElem?_eq_getElem (by omega)]
      exact congrArg some (hx _ (List.getElem_mem (by omega)))
    refine G.addr b 0 n c i 1 (by kernel_rfl) hlt ?_
    refine G.loadM none b (0 + i * 1) (.bool true) (by kernel_rfl) (by kernel_rfl) (hE i _ hTi) ?_
    refine G.eqB false true (by kernel_rfl) ?_
    refine G.add (i : Int) 1 ((i + 1 : Nat) : Int) (by kernel_rfl) (by omega) (by omega) (by omega) ?_
    exact G.back (by kernel_rfl) (hJ (i + 1) _ _ _ ⟨by kernel_rfl, by kernel_rfl, by kernel_rfl⟩ l1 ⟨by omega, rfl⟩ (by omega))
  · obtain rfl : i = n := by omega
    refine G.lssF (i : Int) (i : Int) (by kernel_rfl) (by omega) ?_
    exact G.ret (.int .i64 (-1)) (by kernel_rfl) ⟨rfl, rfl⟩
theorem bContains0 {u m : PH} {b n c : Nat} {L : List Bool} (hn : n = L.length) (hl : n ≤ 1000000) (hE : ∀ (j : Nat) s, L[j]? = some s → ElP m b (0 + j * 1) (.bool s)) (hx : ∀ s ∈ L, s = true) :
    FnK Tryz.prog 122 [.slice (some ⟨b, 0, none⟩) n c, .bool false] u m fun v _ => v = .bool false := by
  refine FnK.of Tryz.func122 (by kernel_rfl) (by kernel_rfl) ?_
  refine G.callK _ _ (by kernel_rfl) Tryz.call156 (bIndex0 (c := c) (L := L) hn hl hE hx) ?_
  rintro v1 u1 l1 rfl
  refine G.geqF (-1) 0 (by kernel_rfl) (by omega) ?_
  exact G.ret (.bool false) (by kernel_rfl) ⟨rfl, rfl⟩
abbrev SRel : Type := List UInt8 × List Nat × (Option Addr × Nat)
def relV (r : SRel) : Value := .agg #[.string (mkS r.1), .slice r.2.2.1 r.2.1.length r.2.2.2]
structure RelOK (u : PH) (n : Nat) (R : List SRel) : Prop where
  names : Names (R.map (·.1))
  ne : ∀ r ∈ R, r.2.1 ≠ []
  lt : ∀ r ∈ R, ∀ a ∈ r.2.1, a < n
  len : ∀ r ∈ R, r.2.1.length ≤ 1000
  asc : ∀ r ∈ R, ∀ (k : Nat) x y, r.2.1[k]? = some x → r.2.1[k + 1]? = some y → x < y
  all : ∀ a < n, ∃ r ∈ R, a ∈ r.2.1
  at' : ∀ r ∈ R, ListP u (.slice r.2.2.1 r.2.1.length r.2.2.2) 1 (intsV r.2.1)
def uArr (g n : Nat) (L : List Bool) : Arr := ⟨.slice (some ⟨g, 0, none⟩) n n, 4, 1, L.map .bool⟩
def nArr (a : Option Addr) (c : Nat) (L : List (List UInt8)) : Arr := ⟨.slice a L.length c, 9, 1, L.map nmV⟩
theorem uArr_at {g n : Nat} {L : List Bool} {m0 m : PH} : (uArr g n L).At m0 m = ArrAt m0 m (.slice (some ⟨g, 0, none⟩) n n) 4 1 (L.map .bool) := rfl
theorem nArr_at {a : Option Addr} {c : Nat} {L : List (List UInt8)} {m0 m : PH} : (nArr a c L).At m0 m = ArrAt m0 m (.slice a L.length c) 9 1 (L.map nmV) := rfl
theorem map_bool_set (L : List Bool) (a : Nat) : (L.map Value.bool).set a (.bool true) = (L.set a true).map Value.bool := by rw [List.map_set]
set_option maxHeartbeats 4000000 in
theorem relations0 {u : PH} {w x y : Value} {a0 : Option Addr} {n c0 : Nat} {R : List SRel} (hR : ListP u w 2 (R.map relV)) (ok : RelOK u n R) (hn : n ≤ 1000) (hn0 : 0 < n) (hl : R.length ≤ 1000) (hx : ∃ a n c, x = .slice a n c) (hy : ∃ z : Int, y = .int .i64 z) :
    Fn0 Tryz.prog 75 [.agg #[.slice a0 n c0, w, x, y]] u fun r _ => r = .int .i64 0 := by
  obtain ⟨a, c, rfl⟩ := hR.opn
  obtain ⟨xa, xn, xc, rfl⟩ := hx
  obtain ⟨z, rfl⟩ := hy
  rw [List.length_map] at hR ⊢
  refine Fn0.of Tryz.func75 (by kernel_rfl) (by kernel_rfl) ?_
  refine G.make 4 1 1 (.bool false) n (by kernel_rfl) rfl rfl (by omega) (by omega) (by omega) ?_
  rintro v1 m1 hA1 ⟨ad, rfl⟩
  obtain ⟨g, rfl, _⟩ := hA1.some'
  refine G.loop (ι := Nat × List Bool × List (List UInt8) × (Option Addr × Nat)) (fun i => [(3, .v (.slice i.2.2.2.1 i.2.2.1.length i.2.2.2.2)), (4, .v (.slice (some ⟨g, 0, none⟩) n n)), (16, .v (.slice a R.length c)), (17, .v (.int .i64 (R.length : Int))), (18, .v (.int .i64 (i.1 : Int)))]) (fun _ => [])
    (fun i u' m' => i.1 ≤ R.length ∧ i.2.1.length = n ∧ i.2.2.1 = (R.map (·.1)).take i.1 ∧ (∀ r ∈ R.take i.1, ∀ q ∈ r.2.1, i.2.1[q]? = some true) ∧ Bag m' [uArr g n i.2.1, nArr i.2.2.2.1 i.2.2.2.2 i.2.2.1]) (fun i => R.length - i.1) (0, List.replicate n false, [], (none, 0)) (by kernel_rfl) (fun _ => by kernel_rfl) ⟨by kernel_rfl, by kernel_rfl, by kernel_rfl⟩
    ⟨by simp, by simp, by simp, by simp, ⟨PH.mt, by rw [uArr_at, List.map_replicate]; exact hA1, PH.mt, ArrAt.nil _ _ _, trivial⟩⟩ ?_
  rintro J ⟨i, L, N, ⟨na, nc⟩⟩ hJ u2 m2 l2 ⟨hi, hL, hN, hall, hbag⟩
  simp only at hi hL hN hall hbag hJ
  by_cases hlt : i < R.length
  · refine G.lssT (i : Int) (R.length : Int) (by kernel_rfl) (by omega) ?_
    have hTi : R[i]? = some R[i] := List.getElem?_eq_getElem hlt
    have hmem : R[i] ∈ R := List.getElem_mem hlt
    have htk : (R.map (·.1)).take (i + 1) = N ++ [R[i].1] := by
      rw [List.take_add_one, List.getElem?_map, hTi, hN]; rfl
    have htk2 : R.take (i + 1) = R.take i ++ [R[i]] := by
      rw [List.take_add_one, hTi]; rfl
    have hnames := ok.names.take (i + 1)
    rw [htk] at hnames
    have hlen : N.length = i := by rw [hN]; simp; omega
    obtain ⟨ba, oa, rfl, ea⟩ := ListP.at' (hR.mono l2) (j := i) (e := relV R[i]) (by simp [hTi])
    generalize R[i] = q at ea hmem htk htk2 hnames
    obtain ⟨qs, ql, qa, qc⟩ := q
    have hne : ql ≠ [] := ok.ne _ hmem
    have hlq : ∀ p ∈ ql, p < n := ok.lt _ hmem
    have hql : ql.length ≤ 1000 := ok.len _ hmem
    have hasc : ∀ (k : Nat) x y, ql[k]? = some x → ql[k + 1]? = some y → x < y := ok.asc _ hmem
    have hqat : ListP u2 (.slice qa ql.length qc) 1 (intsV ql) := (ok.at' _ hmem).mono l2
    have hq0 : 0 < ql.length := List.length_pos_iff.2 hne
    simp only at htk hnames
    refine G.addr ba oa R.length c i 2 (by kernel_rfl) hlt ?_
    refine G.loadU (some 2) ba (oa + i * 2) (.agg #[.string (mkS qs), .slice qa ql.length qc]) (by kernel_rfl) (by kernel_rfl) ea ?_
    refine G.buildU 9 1 16 (.string (mkS [])) [.string (mkS qs)] (by kernel_rfl) (nmV_ok [qs]) rfl (by omega) (by simp) (by simp) ?_
    intro g3 u3 l3 e3
    obtain ⟨mm, hx0, hput⟩ := hbag.focus 1 rfl
    rw [nArr_at] at hx0
    refine G.append 9 1 16 (.string (mkS [])) mm (N.map nmV) [.string (mkS qs)] (.slice na N.length nc) g3 0 1 1 (by kernel_rfl) rfl rfl (by omega) hx0 e3 (nmV_ok [qs]) rfl (by omega) (by simp; omega) (by simp; omega) ?_
    intro v4 m4 hA4
    rw [show N.map nmV ++ [.string (mkS qs)] = (N ++ [qs]).map nmV by rw [List.map_append]; rfl] at hA4
    obtain ⟨b4, c4, rfl⟩ := hA4.ptr (by simp)
    have hcap := hA4.cap
    rw [List.length_map] at hA4 hcap ⊢
    have hbag4 := hput (nArr (some ⟨b4, 0, none⟩) c4 (N ++ [qs])) m4 hA4
    simp only [List.set_cons_succ, List.set_cons_zero] at hbag4
    refine G.callK _ _ (by kernel_rfl) Tryz.call121 (named0 (b := b4) (k := i) (c := c4) (x := qs) (L := N ++ [qs]) hnames (by simp; omega) hcap (by rw [← hlen]; exact getElem?_snoc_last N qs) fun j s hs => hA4.el (by rw [List.getElem?_map, hs]; rfl)) ?_
    rintro v5 u5 l5 rfl
    refine G.neqF 0 0 (by kernel_rfl) (by omega) ?_
    refine G.eqlF (ql.length : Int) 0 (by kernel_rfl) (by omega) ?_
    generalize N ++ [qs] = N' at hbag4 htk
    clear hA4 hput hx0 hbag hcap hnames
    have hlt' : ∀ p ∈ ql, p < n := hlq
    refine G.loop (ι := Nat × List Bool) (fun j => [(3, .v (.slice (some ⟨b4, 0, none⟩) N'.length c4)), (4, .v (.slice (some ⟨g, 0, none⟩) n n)), (6, .p 5003 0), (16, .v (.slice (some ⟨ba, oa, none⟩) R.length c)), (17, .v (.int .i64 (R.length : Int))), (18, .v (.int .i64 (i : Int))), (39, .v (.slice qa ql.length qc)), (40, .v (.int .i64 (ql.length : Int))), (41, .v (.int .i64 (j.1 : Int)))])
      (fun _ => [(5003, ⟨79, [.v (.string (mkS qs)), .v (.slice qa ql.length qc)]⟩)])
      (fun j u' m' => j.1 ≤ ql.length ∧ j.2.length = n ∧ (∀ r ∈ R.take i, ∀ q ∈ r.2.1, j.2[q]? = some true) ∧ (∀ q ∈ ql.take j.1, j.2[q]? = some true) ∧ Bag m' [uArr g n j.2, nArr (some ⟨b4, 0, none⟩) c4 N']) (fun j => ql.length - j.1) (0, L) (by kernel_rfl) (fun _ => by kernel_rfl) ⟨by kernel_rfl, by kernel_rfl, by kernel_rfl⟩
      ⟨by simp, hL, hall, by simp, hbag4⟩ ?_
    rintro J2 ⟨j, L2⟩ hJ2 u6 m6 l6 ⟨hj, hL2, hall2, hrow2, hbag6⟩
    simp only at hj hL2 hall2 hrow2 hbag6 hJ2
    have hqat6 := hqat.mono ((l3.trans l5).trans l6)
    by_cases hltj : j < ql.length
    · refine G.lssT (j : Int) (ql.length : Int) (by kernel_rfl) (by omega) ?_
      have hqj : ql[j]? = some ql[j] := List.getElem?_eq_getElem hltj
      have hpn : ql[j] < n := hlq _ (List.getElem_mem hltj)
      have htkj : ql.take (j + 1) = ql.take j ++ [ql[j]] := by rw [List.take_add_one, hqj]; rfl
      obtain ⟨bq, oq, rfl, eq⟩ := ListP.at' hqat6 (j := j) (e := .int .i64 (ql[j] : Int)) (by simp [intsV, hqj])
      generalize ql[j] = p at eq hpn htkj
      refine G.addr bq oq ql.length qc j 1 (by kernel_rfl) hltj ?_
      refine G.loadU none bq (oq + j * 1) (.int .i64 (p : Int)) (by kernel_rfl) (by kernel_rfl) eq ?_
      refine G.lssF (p : Int) 0 (by kernel_rfl) (by omega) ?_
      refine G.geqF (p : Int) (n : Int) (by kernel_rfl) (by omega) ?_
      refine G.addr g 0 n n p 1 (by kernel_rfl) hpn ?_
      obtain ⟨mm2, hx2, hput2⟩ := hbag6.focus 0 rfl
      rw [uArr_at] at hx2
      refine G.storeA 1 mm2 (L2.map Value.bool) g n n p (.bool true) (by kernel_rfl) hx2 (by rw [List.length_map]; omega) rfl rfl ?_
      intro m7 hA7
      rw [map_bool_set] at hA7
      have hbag7 := hput2 (uArr g n (L2.set p true)) m7 hA7
      simp only [List.set_cons_zero] at hbag7
      refine G.add (j : Int) 1 ((j + 1 : Nat) : Int) (by kernel_rfl) (by omega) (by omega) (by omega) ?_
      have hkeep : ∀ q, L2[q]? = some true → (L2.set p true)[q]? = some true := fun q hq => by
        rw [List.getElem?_set]
        split
        · subst_vars; rw [if_pos (by omega)]
        · exact hq
      exact G.back (by kernel_rfl) (hJ2 (j + 1, L2.set p true) _ _ _ ⟨by kernel_rfl, by kernel_rfl, by kernel_rfl⟩ l6 ⟨by dsimp only; omega, by simp [hL2], fun r hr q hq => hkeep q (hall2 r hr q hq), by
        intro q hq
        dsimp only at hq ⊢
        rw [htkj, List.mem_append, List.mem_singleton] at hq
        rcases hq with hq | rfl
        · exact hkeep q (hrow2 q hq)
        · rw [List.getElem?_set]; simp; omega, hbag7⟩ (by dsimp only; omega))
    · obtain rfl : j = ql.length := by omega
      refine G.lssF (ql.length : Int) (ql.length : Int) (by kernel_rfl) (by omega) ?_
      rw [List.take_length] at hrow2
      refine G.loop (ι := Nat) (fun k => [(3, .v (.slice (some ⟨b4, 0, none⟩) N'.length c4)), (4, .v (.slice (some ⟨g, 0, none⟩) n n)), (6, .p 5003 0), (10, .v (.int .i64 ((k + 1 : Nat) : Int))), (16, .v (.slice (some ⟨ba, oa, none⟩) R.length c)), (17, .v (.int .i64 (R.length : Int))), (18, .v (.int .i64 (i : Int)))])
        (fun _ => [(5003, ⟨79, [.v (.string (mkS qs)), .v (.slice qa ql.length qc)]⟩)])
        (fun k u' m' => k + 1 ≤ ql.length ∧ m' = m6) (fun k => ql.length - k) 0 (by kernel_rfl) (fun _ => by kernel_rfl) ⟨by kernel_rfl, by kernel_rfl, by kernel_rfl⟩
        ⟨by omega, rfl⟩ ?_
      rintro J3 k hJ3 u8 m8 l8 ⟨hk, rfl⟩
      have hqat8 := hqat6.mono l8
      by_cases hltk : k + 1 < ql.length
      · refine G.lssT ((k + 1 : Nat) : Int) (ql.length : Int) (by kernel_rfl) (by omega) ?_
        have hq1 : ql[k]? = some ql[k] := List.getElem?_eq_getElem (by omega)
        have hq2 : ql[k + 1]? = some ql[k + 1] := List.getElem?_eq_getElem hltk
        have hlt3 := hasc k _ _ hq1 hq2
        obtain ⟨bq, oq, rfl, eq2⟩ := ListP.at' hqat8 (j := k + 1) (e := .int .i64 (ql[k + 1] : Int)) (by simp [intsV, hq2])
        obtain ⟨_, _, e', eq1⟩ := ListP.at' hqat8 (j := k) (e := .int .i64 (ql[k] : Int)) (by simp [intsV, hq1])
        cases e'
        generalize ql[k] = p1 at eq1 hlt3
        generalize ql[k + 1] = p2 at eq2 hlt3
        refine G.addr bq oq ql.length qc (k + 1) 1 (by kernel_rfl) hltk ?_
        refine G.loadU none bq (oq + (k + 1) * 1) (.int .i64 (p2 : Int)) (by kernel_rfl) (by kernel_rfl) eq2 ?_
        refine G.sub ((k + 1 : Nat) : Int) 1 (k : Int) (by kernel_rfl) (by omega) (by omega) (by omega) ?_
        refine G.addr bq oq ql.length qc k 1 (by kernel_rfl) (by omega) ?_
        refine G.loadU none bq (oq + k * 1) (.int .i64 (p1 : Int)) (by kernel_rfl) (by kernel_rfl) eq1 ?_
        refine G.leqF (p2 : Int) (p1 : Int) (by kernel_rfl) (by omega) ?_
        refine G.add ((k + 1 : Nat) : Int) 1 ((k + 1 + 1 : Nat) : Int) (by kernel_rfl) (by omega) (by omega) (by omega) ?_
        exact G.back (by kernel_rfl) (hJ3 (k + 1) _ _ _ ⟨by kernel_rfl, by kernel_rfl, by kernel_rfl⟩ l8 ⟨by omega, rfl⟩ (by omega))
      · refine G.lssF ((k + 1 : Nat) : Int) (ql.length : Int) (by kernel_rfl) (by omega) ?_
        refine G.add (i : Int) 1 ((i + 1 : Nat) : Int) (by kernel_rfl) (by omega) (by omega) (by omega) ?_
        exact G.back (by kernel_rfl) (hJ (i + 1, L2, N', (some ⟨b4, 0, none⟩, c4)) _ _ _ ⟨by kernel_rfl, by kernel_rfl, by kernel_rfl⟩ ((((l2.trans l3).trans l5).trans l6).trans l8) ⟨by dsimp only; omega, hL2, htk.symm, by
          intro r hr q hq
          dsimp only at hr hq ⊢
          rw [htk2, List.mem_append, List.mem_singleton] at hr
          rcases hr with hr | rfl
          · exact hall2 r hr q hq
          · exact hrow2 q hq, hbag6⟩ (by dsimp only; omega))
  · obtain rfl : i = R.length := by omega
    refine G.lssF (R.length : Int) (R.length : Int) (by kernel_rfl) (by omega) ?_
    rw [List.take_length] at hall
    refine G.callK _ _ (by kernel_rfl) Tryz.call122 (bContains0 (b := g) (c := n) (L := L) hL.symm (by omega) (fun j s hs => hbag.el 0 rfl (x := uArr g n L) rfl (by show (L.map Value.bool)[j]? = _; rw [List.getElem?_map, hs]; rfl)) fun s hs => by
      obtain ⟨j, hj, rfl⟩ := List.getElem_of_mem hs
      obtain ⟨r, hr, hq⟩ := ok.all j (by omega)
      have := hall r hr j hq
      rw [List.getElem?_eq_getElem hj] at this
      exact Option.some.inj this) ?_
    rintro v3 u3 l3 rfl
    refine G.drop PH.mt (by kernel_rfl) (PH.mt_le _) ?_
    exact G.ret (.int .i64 0) (by kernel_rfl) ⟨rfl, rfl⟩
end Go.Proofs.YtikfmknnbjocmaaGreatDoor
end
section
set_option linter.unusedSectionVars false
set_option linter.unusedVariables false
namespace Go.Proofs.YtikfmknnbjocmaaGreatDoor
open Go.RowKit Go.MapKept
structure SchOK (u : PH) (T : List (List UInt8 × Nat)) (R : List SRel) (F : List Feat) (lab : Int) : Prop where
  att : AttOK T
  rel : RelOK u T.length R
  feat : FeatOK T F lab
  t1 : 0 < T.length
  t2 : T.length ≤ 12
  r1 : 0 < R.length
  r2 : R.length ≤ 6
  f2 : F.length ≤ 8
  l1 : -1 ≤ lab
  l2 : ∀ l : Nat, lab = (l : Int) → ∃ n, T[l]? = some (n, 2)
theorem RelOK.mono {u u' : PH} {n : Nat} {R : List SRel} (h : RelOK u n R) (hl : PH.le u u') : RelOK u' n R := ⟨h.names, h.ne, h.lt, h.len, h.asc, h.all, fun r hr => (h.at' r hr).mono hl⟩
theorem SchOK.mono {u u' : PH} {T : List (List UInt8 × Nat)} {R : List SRel} {F : List Feat} {lab : Int} (h : SchOK u T R F lab) (hl : PH.le u u') : SchOK u' T R F lab := ⟨h.att, h.rel.mono hl, h.feat, h.t1, h.t2, h.r1, h.r2, h.f2, h.l1, h.l2⟩
def SchP (u : PH) (v : Value) (T : List (List UInt8 × Nat)) (R : List SRel) (F : List Feat) (lab : Int) : Prop :=
  ∃ a c b d e f, v = .agg #[.slice a T.length c, .slice b R.length d, .slice e F.length f, .int .i64 lab] ∧ ListP u (.slice a T.length c) 2 (T.map attV) ∧ ListP u (.slice b R.length d) 2 (R.map relV) ∧ ListP u (.slice e F.length f) 3 (F.map featV)
theorem SchP.mono {u u' : PH} {v : Value} {T : List (List UInt8 × Nat)} {R : List SRel} {F : List Feat} {lab : Int} (h : SchP u v T R F lab) (hl : PH.le u u') : SchP u' v T R F lab := by
  obtain ⟨a, c, b, d, e, f, hv, h1, h2, h3⟩ := h
  exact ⟨a, c, b, d, e, f, hv, h1.mono hl, h2.mono hl, h3.mono hl⟩
set_option maxHeartbeats 2000000 in
theorem check0 {u : PH} {v : Value} {T : List (List UInt8 × Nat)} {R : List SRel} {F : List Feat} {lab : Int} (h : SchP u v T R F lab) (ok : SchOK u T R F lab) :
    Fn0 Tryz.prog 41 [v] u fun r _ => r = .int .i64 0 := by
  obtain ⟨a, c, b, d, e, f, rfl, hT, hR, hF⟩ := h
  have t1 := ok.t1
  have t2 := ok.t2
  have r1 := ok.r1
  have r2 := ok.r2
  have f2 := ok.f2
  have lo := ok.l1
  have hi : lab < T.length := by
    rcases Int.lt_or_le lab 0 with hlt | hge
    · omega
    · obtain ⟨n, hn⟩ := ok.l2 lab.toNat (by omega)
      obtain ⟨hk, _⟩ := List.getElem?_eq_some_iff.1 hn
      omega
  refine Fn0.of Tryz.func41 (by kernel_rfl) (by kernel_rfl) ?_
  refine G.eqlF (T.length : Int) 0 (by kernel_rfl) (by omega) ?_
  refine G.gtrF (T.length : Int) 12 (by kernel_rfl) (by omega) ?_
  refine G.eqlF (R.length : Int) 0 (by kernel_rfl) (by omega) ?_
  refine G.gtrF (R.length : Int) 6 (by kernel_rfl) (by omega) ?_
  refine G.gtrF (F.length : Int) 8 (by kernel_rfl) (by omega) ?_
  refine G.buildU 81 1 8 (.nilFunc) [.func (.func 74) #[] #[], .func (.func 75) #[] #[], .func (.func 76) #[] #[]] (by kernel_rfl) (fun x hx => by
    simp only [List.mem_cons, List.not_mem_nil, or_false] at hx
    rcases hx with rfl | rfl | rfl <;> exact ⟨rfl, List.all_eq_true.1 rfl⟩) rfl (by omega) (by simp) (by simp) ?_
  intro g u1 l1 e1
  refine G.loop (ι := Nat) (fun i => [(1, .p 0 0), (34, .v (.slice (some ⟨g, 0, none⟩) 3 3)), (35, .v (.int .i64 ((3 : Nat) : Int))), (36, .v (.int .i64 (i : Int)))])
    (fun _ => [(0, ⟨30, [.v (.slice a T.length c), .v (.slice b R.length d), .v (.slice e F.length f), .v (.int .i64 lab)]⟩)])
    (fun i u' m' => i ≤ 3 ∧ m' = PH.mt) (fun i => 3 - i) 0 (by kernel_rfl) (fun _ => by kernel_rfl) ⟨by kernel_rfl, by kernel_rfl, by kernel_rfl⟩ ⟨by omega, rfl⟩ ?_
  rintro J i hJ u2 m2 l2 ⟨hi3, rfl⟩
  have le2 := l1.trans l2
  have e2 := e1.mono l2
  by_cases hlt : i < 3
  · refine G.lssT (i : Int) ((3 : Nat) : Int) (by kernel_rfl) (by omega) ?_
    refine G.addr g 0 3 3 i 1 (by kernel_rfl) hlt ?_
    rcases (by omega : i = 0 ∨ i = 1 ∨ i = 2) with rfl | rfl | rfl
    · refine G.loadU none g (0 + 0 * 1) (.func (.func 74) #[] #[]) (by kernel_rfl) (by kernel_rfl) (e2 0 _ rfl) ?_
      refine G.call0 _ _ (by kernel_rfl) Tryz.call74 (attributes0 (w := .slice b R.length d) (x := .slice e F.length f) (y := .int .i64 lab) (hT.mono le2) ok.att (by omega) ⟨_, _, _, rfl⟩ ⟨_, _, _, rfl⟩ ⟨_, rfl⟩) ?_
      rintro v3 u3 l3 rfl
      refine G.neqF 0 0 (by kernel_rfl) (by omega) ?_
      refine G.add ((0 : Nat) : Int) 1 ((0 + 1 : Nat) : Int) (by kernel_rfl) (by omega) (by omega) (by omega) ?_
      exact G.back (by kernel_rfl) (hJ (0 + 1) _ _ _ ⟨by kernel_rfl, by kernel_rfl, by kernel_rfl⟩ (l2.trans l3) ⟨by omega, rfl⟩ (by omega))
    · refine G.loadU none g (0 + 1 * 1) (.func (.func 75) #[] #[]) (by kernel_rfl) (by kernel_rfl) (e2 1 _ rfl) ?_
      refine G.call0 _ _ (by kernel_rfl) Tryz.call75 (relations0 (a0 := a) (c0 := c) (x := .slice e F.length f) (y := .int .i64 lab) (hR.mono le2) (ok.rel.mono le2) (by omega) (by omega) (by omega) ⟨_, _, _, rfl⟩ ⟨_, rfl⟩) ?_
      rintro v3 u3 l3 rfl
      refine G.neqF 0 0 (by kernel_rfl) (by omega) ?_
      refine G.add ((1 : Nat) : Int) 1 ((1 + 1 : Nat) : Int) (by kernel_rfl) (by omega) (by omega) (by omega) ?_
      exact G.back (by kernel_rfl) (hJ (1 + 1) _ _ _ ⟨by kernel_rfl, by kernel_rfl, by kernel_rfl⟩ (l2.trans l3) ⟨by omega, rfl⟩ (by omega))
    · refine G.loadU none g (0 + 2 * 1) (.func (.func 76) #[] #[]) (by kernel_rfl) (by kernel_rfl) (e2 2 _ rfl) ?_
      refine G.call0 _ _ (by kernel_rfl) Tryz.call76 (features0 (w := .slice b R.length d) (hT.mono le2) (hF.mono le2) ok.feat (by omega) (by omega) ⟨_, _, _, rfl⟩) ?_
      rintro v3 u3 l3 rfl
      refine G.neqF 0 0 (by kernel_rfl) (by omega) ?_
      refine G.add ((2 : Nat) : Int) 1 ((2 + 1 : Nat) : Int) (by kernel_rfl) (by omega) (by omega) (by omega) ?_
      exact G.back (by kernel_rfl) (hJ (2 + 1) _ _ _ ⟨by kernel_rfl, by kernel_rfl, by kernel_rfl⟩ (l2.trans l3) ⟨by omega, rfl⟩ (by omega))
  · obtain rfl : i = 3 := by omega
    refine G.lssF ((3 : Nat) : Int) ((3 : Nat) : Int) (by kernel_rfl) (by omega) ?_
    refine G.lssF lab (-1) (by kernel_rfl) (by omega) ?_
    refine G.geqF lab (T.length : Int) (by kernel_rfl) (by omega) ?_
    rcases Int.lt_or_le lab 0 with hneg | hge
    · refine G.geqF lab 0 (by kernel_rfl) (by omega) ?_
      exact G.ret (.int .i64 0) (by kernel_rfl) ⟨rfl, rfl⟩
    · refine G.geqT lab 0 (by kernel_rfl) (by omega) ?_
      obtain ⟨l, rfl⟩ : ∃ l : Nat, lab = (l : Int) := ⟨lab.toNat, by omega⟩
      obtain ⟨n, hn⟩ := ok.l2 l rfl
      obtain ⟨bb, ob, rfl, eb⟩ := ListP.at' (hT.mono le2) (j := l) (e := attV (n, 2)) (by simp [hn])
      refine G.addr bb ob T.length c l 2 (by kernel_rfl) (by omega) ?_
      refine G.fieldA 77 bb (ob + l * 2) 1 1 (by kernel_rfl) (by kernel_rfl) ?_
      refine G.loadU none bb (ob + l * 2 + 1) (.int .i64 ((2 : Nat) : Int)) (by kernel_rfl) (by kernel_rfl) (elP_att2 eb) ?_
      refine G.neqF ((2 : Nat) : Int) 2 (by kernel_rfl) (by omega) ?_
      exact G.ret (.int .i64 0) (by kernel_rfl) ⟨rfl, rfl⟩
end Go.Proofs.YtikfmknnbjocmaaGreatDoor
end
section
set_option linter.unusedSectionVars false
set_option linter.unusedVariables false
namespace Go.Proofs.YtikfmknnbjocmaaGreatDoor
open Go.RowKit Go.MapKept
theorem lim0 (n : Nat) : (limbs n).getD 0 0 = n % 1000000000 := by
  by_cases h : n = 0
  · subst h; rw [limbs_zero]; rfl
  · rw [limbs_pos h]; rfl
theorem lim1 (n : Nat) : (limbs n).getD 1 0 = n / 1000000000 % 1000000000 := by
  by_cases h : n = 0
  · subst h; rw [limbs_zero]; rfl
  · rw [limbs_pos h]; show (limbs (n / 1000000000)).getD 0 0 = _; rw [lim0]
theorem lim_len {n : Nat} (h : n < 1000000000000000000) : (limbs n).length ≤ 2 := by
  by_cases h0 : n = 0
  · subst h0; rw [limbs_zero]; simp
  · rw [limbs_pos h0]
    by_cases h1 : n / 1000000000 = 0
    · rw [h1, limbs_zero]; simp
    · rw [limbs_pos h1, show n / 1000000000 / 1000000000 = 0 by omega, limbs_zero]; simp
theorem u64_wrapZ {z : Int} (h1 : 0 ≤ z) (h2 : z < 18446744073709551616) : IntKind.u64.wrap z = z := by
  simp only [IntKind.wrap, IntKind.signed, IntKind.bits]; simp; omega
section rules
variable {P : Program} [Mixed P] {fn : Func} {Post : Spec} {st : List KI × S} {u m : PH}
theorem G.mul64 (x y z : Int) (h : stopV P (adv P st) = .bin .mul (.int .u64 x) (.int .u64 y)) (hz : x * y = z) (h1 : 0 ≤ z) (h2 : z < 18446744073709551616)
    (k : G P fn Post (nx (adv P st) (.int .u64 z)) u m) : G P fn Post st u m :=
  G.bin _ h guard_int (fun t w => by simp [binOp, Op.intArith, hz, u64_wrapZ h1 h2]) k
theorem G.add64 (x y z : Int) (h : stopV P (adv P st) = .bin .add (.int .u64 x) (.int .u64 y)) (hz : x + y = z) (h1 : 0 ≤ z) (h2 : z < 18446744073709551616)
    (k : G P fn Post (nx (adv P st) (.int .u64 z)) u m) : G P fn Post st u m :=
  G.bin _ h guard_int (fun t w => by simp [binOp, Op.intArith, hz, u64_wrapZ h1 h2]) k
end rules
theorem natAt0 {u : PH} {v : Value} {n : Nat} (h : NatP u v n) (hn : n < 1000000000000000000) (i : Nat) : Fn0 Tryz.prog 157 [v, .int .i64 (i : Int)] u fun r _ => r = .int .u64 (((limbs n).getD i 0 : Nat) : Int) := by
  have hl := lim_len hn
  obtain ⟨a, c, rfl, _⟩ := id h
  refine Fn0.of Tryz.func157 (by kernel_rfl) (by kernel_rfl) ?_
  by_cases hlt : i < (limbs n).length
  · refine G.lssT (i : Int) ((limbs n).length : Int) (by kernel_rfl) (by omega) ?_
    obtain ⟨b, off, rfl, e⟩ := h.at hlt
    refine G.addr b off (limbs n).length c i 1 (by kernel_rfl) hlt ?_
    refine G.loadU none b (off + i * 1) _ (by kernel_rfl) (by kernel_rfl) e ?_
    exact G.ret _ (by kernel_rfl) ⟨rfl, rfl⟩
  · refine G.lssF (i : Int) ((limbs n).length : Int) (by kernel_rfl) (by omega) ?_
    rw [getD_past hlt]
    exact G.ret (.int .u64 0) (by kernel_rfl) ⟨rfl, rfl⟩
theorem natSmall0 {u : PH} {v : Value} {n : Nat} (h : NatP u v n) (hn : n < 1000000000000000000) : Fn0 Tryz.prog 158 [v] u fun r _ => r = .int .u64 (n : Int) := by
  obtain ⟨a, c, rfl, _⟩ := id h
  refine Fn0.of Tryz.func158 (by kernel_rfl) (by kernel_rfl) ?_
  refine G.call0 _ _ (by kernel_rfl) Tryz.call157 (natAt0 h hn 1) ?_
  rintro v1 u1 l1 rfl
  rw [lim1]
  refine G.mul64 ((n / 1000000000 % 1000000000 : Nat) : Int) 1000000000 _ (by kernel_rfl) rfl (by omega) (by omega) ?_
  refine G.call0 _ _ (by kernel_rfl) Tryz.call157 (natAt0 (h.mono l1) hn 0) ?_
  rintro v2 u2 l2 rfl
  rw [lim0]
  refine G.add64 (((n / 1000000000 % 1000000000 : Nat) : Int) * 1000000000) ((n % 1000000000 : Nat) : Int) (n : Int) (by kernel_rfl) (by omega) (by omega) (by omega) ?_
  exact G.ret _ (by kernel_rfl) ⟨rfl, rfl⟩
theorem numSmall0 {u : PH} {v : Value} {z : Int} (h : NumP u v z) (hz : z.natAbs < 1000000000000000000) : Fn0 Tryz.prog 126 [v] u fun r _ => r = .tuple #[.int .i64 z, .bool true] := by
  obtain ⟨a, n', c, rfl, hN⟩ := h
  obtain ⟨a, c, e, _⟩ := id hN
  cases e
  have hl := lim_len hz
  generalize hn : z.natAbs = n at hN hz hl ⊢
  refine Fn0.of Tryz.func126 (by kernel_rfl) (by kernel_rfl) ?_
  refine G.gtrF ((limbs n).length : Int) 3 (by kernel_rfl) (by omega) ?_
  refine G.call0 _ _ (by kernel_rfl) Tryz.call157 (natAt0 hN hz 2) ?_
  rintro v1 u1 l1 rfl
  rw [getD_past (k := 2) (by omega)]
  refine G.cmpG .gtr .u64 ((0 : Nat) : Int) 4 false (by kernel_rfl) rfl (by simp [cmpZ]) ?_
  refine G.call0 _ _ (by kernel_rfl) Tryz.call157 (natAt0 (hN.mono l1) hz 2) ?_
  rintro v2 u2 l2 rfl
  rw [getD_past (k := 2) (by omega)]
  refine G.mul64 ((0 : Nat) : Int) 1000000000 0 (by kernel_rfl) (by omega) (by omega) (by omega) ?_
  refine G.mul64 0 1000000000 0 (by kernel_rfl) (by omega) (by omega) (by omega) ?_
  refine G.call0 _ _ (by kernel_rfl) Tryz.call158 (natSmall0 (hN.mono (l1.trans l2)) hz) ?_
  rintro v3 u3 l3 rfl
  refine G.add64 0 (n : Int) (n : Int) (by kernel_rfl) (by omega) (by omega) (by omega) ?_
  refine G.cmpG .gtr .u64 (n : Int) 4611686018427387904 false (by kernel_rfl) rfl (by simp [cmpZ]; omega) ?_
  by_cases hneg : z < 0
  · rw [decide_eq_true hneg]
    refine G.convI .u64 .i64 .u64 (n : Int) (n : Int) (by kernel_rfl) ?_ ?_
    · simp only [IntKind.wrap, IntKind.signed, IntKind.bits]; simp; omega
    refine G.neg (n : Int) z (by kernel_rfl) (by omega) (by omega) (by omega) ?_
    exact G.ret (.tuple #[.int .i64 z, .bool true]) (by kernel_rfl) ⟨rfl, rfl⟩
  · rw [decide_eq_false hneg]
    refine G.convI .u64 .i64 .u64 (n : Int) (n : Int) (by kernel_rfl) ?_ ?_
    · simp only [IntKind.wrap, IntKind.signed, IntKind.bits]; simp; omega
    obtain rfl : z = (n : Int) := by omega
    exact G.ret (.tuple #[.int .i64 (n : Int), .bool true]) (by kernel_rfl) ⟨rfl, rfl⟩
end Go.Proofs.YtikfmknnbjocmaaGreatDoor
end
section
set_option linter.unusedSectionVars false
set_option linter.unusedVariables false
namespace Go.Proofs.YtikfmknnbjocmaaGreatDoor
open Go.RowKit Go.MapKept
theorem small_dig {z : Int} (h : z.natAbs < 1000000000000000000) : Lib.nDigits z.natAbs ≤ 400 := Nat.le_trans (dig_of_lt (k := 18) (by omega) (by omega)) (by omega)
theorem intSmall0 {u : PH} {z : Int} (h : z.natAbs < 1000000000000000000) : Fn0 Tryz.prog 79 [.string (mkS (Lib.itoa z))] u fun v _ => v = .tuple #[.int .i64 z, .bool true] := by
  refine Fn0.of Tryz.func79 (by kernel_rfl) (by kernel_rfl) ?_
  refine G.call0 _ _ (by kernel_rfl) Tryz.call104 (intValid0 (small_dig h)) ?_
  rintro v1 u1 l1 rfl
  refine G.call0 _ _ (by kernel_rfl) Tryz.call125 (intRead0 (small_dig h)) ?_
  intro v2 u2 l2 k2
  obtain ⟨b2, a2, n2, c2, rfl⟩ := k2.opn
  refine G.call0 _ _ (by kernel_rfl) Tryz.call126 (numSmall0 k2 h) ?_
  rintro v3 u3 l3 rfl
  exact G.ret (.tuple #[.int .i64 z, .bool true]) (by kernel_rfl) ⟨rfl, rfl⟩
theorem parts0 {u : PH} {q : Rat} (h : Tx q) : Fn0 Tryz.prog 78 [.string (mkS (ratT q))] u fun v _ => v = .tuple #[.string (mkS (Lib.itoa q.num)), .string (mkS (Lib.itoa (q.den : Int))), .bool true] := by
  refine Fn0.of Tryz.func78 (by kernel_rfl) (by kernel_rfl) ?_
  refine G.call0 _ _ (by kernel_rfl) Tryz.call52 (ratValid0 h) ?_
  rintro v1 u1 l1 rfl
  refine G.call0 _ _ (by kernel_rfl) Tryz.call103 (cutT h) ?_
  rintro v2 u2 l2 rfl
  by_cases hd : q.den = 1
  · rw [if_pos hd, decide_eq_false (by simp [hd]), hd, show ((1 : Nat) : Int) = 1 from rfl, itoa_one]
    exact G.ret (.tuple #[.string (mkS (Lib.itoa q.num)), .string (mkS [49]), .bool true]) (by kernel_rfl) ⟨rfl, rfl⟩
  · rw [if_neg hd, decide_eq_true hd]
    exact G.ret (.tuple #[.string (mkS (Lib.itoa q.num)), .string (mkS (Lib.itoa (q.den : Int))), .bool true]) (by kernel_rfl) ⟨rfl, rfl⟩
theorem bounded0 {u : PH} {z : Int} (h : z.natAbs ≤ 1000000000) : Fn0 Tryz.prog 77 [.string (mkS (Lib.itoa z))] u fun v _ => v = .bool true := by
  refine Fn0.of Tryz.func77 (by kernel_rfl) (by kernel_rfl) ?_
  refine G.call0 _ _ (by kernel_rfl) Tryz.call79 (intSmall0 (z := z) (by omega)) ?_
  rintro v1 u1 l1 rfl
  refine G.geqT z (-1000000000) (by kernel_rfl) (by omega) ?_
  refine G.leqT z 1000000000 (by kernel_rfl) (by omega) ?_
  exact G.ret (.bool true) (by kernel_rfl) ⟨rfl, rfl⟩
structure Dat (q : Rat) : Prop where
  num : q.num.natAbs ≤ 1000000000
  den : q.den ≤ 12
theorem Dat.tx {q : Rat} (h : Dat q) : Tx q := ⟨small_dig (by have := h.num; omega), by have := small_dig (z := (q.den : Int)) (by have := h.den; omega); simpa using this⟩
theorem ratT_nil {q : Rat} : ratT q ≠ [] := by
  intro e
  unfold ratT at e
  split at e
  · by_cases h : q.num < 0
    · rw [itoa_neg h] at e; cases e
    · rw [Lib.itoa, if_neg h] at e
      exact dec_ne_nil _ e
  · simp at e
theorem valueN0 {u : PH} {s : List UInt8} {q : Rat} (h : Dat q) : Fn0 Tryz.prog 42 [attV (s, 2), .string (mkS (ratT q))] u fun v _ => v = .bool true := by
  have hd := h.den
  have hp := q.den_pos
  refine Fn0.of Tryz.func42 (by kernel_rfl) (by kernel_rfl) ?_
  refine G.eqlF ((2 : Nat) : Int) 1 (by kernel_rfl) (by omega) ?_
  refine G.eqlT ((2 : Nat) : Int) 2 (by kernel_rfl) (by omega) ?_
  refine G.call0 _ _ (by kernel_rfl) Tryz.call78 (parts0 h.tx) ?_
  rintro v1 u1 l1 rfl
  refine G.call0 _ _ (by kernel_rfl) Tryz.call79 (intSmall0 (z := (q.den : Int)) (by omega)) ?_
  rintro v2 u2 l2 rfl
  refine G.eqSF (ratT q) [] (by kernel_rfl) ratT_nil ?_
  refine G.call0 _ _ (by kernel_rfl) Tryz.call77 (bounded0 h.num) ?_
  rintro v3 u3 l3 rfl
  refine G.geqT (q.den : Int) 1 (by kernel_rfl) (by omega) ?_
  refine G.leqT (q.den : Int) 12 (by kernel_rfl) (by omega) ?_
  exact G.ret (.bool true) (by kernel_rfl) ⟨rfl, rfl⟩
end Go.Proofs.YtikfmknnbjocmaaGreatDoor
end
section
set_option linter.unusedSectionVars false
set_option linter.unusedVariables false
namespace Go.Proofs.YtikfmknnbjocmaaGreatDoor
open Go.RowKit Go.MapKept
def CF.one1 (p : Par) (q : Rat) : CF := ⟨1, setF (fun _ => 0) p q, setF (fun _ => 0) (p, p) (q * q)⟩
theorem setF_zero {κ : Type} [DecidableEq κ] (a : κ) (k : κ) : setF (fun _ => (0 : Rat)) a 0 k = 0 := by unfold setF; split <;> rfl
set_option maxHeartbeats 2000000 in
theorem oneM0 {u : PH} {x : Value} {p : Par} {q : Rat} (hx : FracP u x q) (hs : SB q) (hs2 : SB (q * q)) :
    Contract Tryz.prog 84 [parV p, x] u PH.mt fun v' u' m' => MomM m' u' v' (CF.one1 p q) 1 := by
  obtain ⟨xb, xa, xn, xc, xb', xa', xn', xc', rfl⟩ := hx.opn
  refine Contract.of Tryz.func84 (by kernel_rfl) (by kernel_rfl) ?_
  refine G.callO _ _ (by kernel_rfl) Tryz.call83 (whole0 (n := 1) (by omega) (by omega)) ?_
  rintro v1 u1 m1 l1 r1 _
  rw [mt_or]
  obtain ⟨b, a, n, c, b', a', n', c', g1, g2, o1, o2, rfl, h1, hne, rfl, h4, h5⟩ := r1
  refine G.call0 _ _ (by kernel_rfl) Tryz.call127 (fracSign0 (hx.mono l1) (Nat.le_trans hs.sz.1 (by omega))) ?_
  rintro v2 u2 l2 rfl
  by_cases hq : q = 0
  · refine G.neqF (sgn q.num) 0 (by kernel_rfl) (fun e => e (sgn0.2 hq)) ?_
    subst hq
    exact G.ret (.agg #[.bool b, .slice a n c, .bool b', .slice a' n' c', .map (some g1), .map (some g2)]) (by kernel_rfl) ⟨b, a, n, c, b', a', n', c', g1, g2, o1, o2, rfl, h1.mono l2, hne, rfl, ((h4.mf l2).up (Nat.zero_le 1) (Nat.le_refl _)).congr fun k => (setF_zero p k).symm, ((h5.mf l2).up (Nat.zero_le 1) (Nat.le_refl _)).congr fun k => by
      show (0 : Rat) = setF (fun _ => (0 : Rat)) (p, p) (0 * 0) k
      rw [show (0 : Rat) * 0 = 0 by decide +kernel, setF_zero]⟩
  · refine G.neqT (sgn q.num) 0 (by kernel_rfl) (fun e => hq (sgn0.1 e)) ?_
    obtain ⟨l, ho, q2, q3, q4⟩ := (h4.mf l2).at
    refine G.mapPut (et := 88) keyPar g1 o1 l p (.agg #[.bool xb, .slice xa xn xc, .bool xb', .slice xa' xn' xc']) (by kernel_rfl) (by kernel_rfl) (by rw [upd_ne _ _ hne, upd_same]) ho ?_
    intro o1' ho1
    have r1 := MapR.put ho q2 q3 q4 ho1 (hx.mono (l1.trans l2)) (fun _ => hq) hs.sz (Nat.le_refl _)
    refine G.call0 _ _ (by kernel_rfl) Tryz.call94 (fracMul0 (hx.mono (l1.trans l2)) (hx.mono (l1.trans l2)) hs.big hs.big) ?_
    intro v3 u3 l3 r3
    obtain ⟨yb, ya, yn, yc, yb', ya', yn', yc', rfl⟩ := r3.opn
    obtain ⟨l', ho', q2', q3', q4'⟩ := (h5.mf (l2.trans l3)).at
    refine G.mapPut (et := 88) keyPr g2 o2 l' (p, p) (.agg #[.bool yb, .slice ya yn yc, .bool yb', .slice ya' yn' yc']) (by kernel_rfl) (by kernel_rfl) (by rw [upd_ne _ _ (Ne.symm hne), upd_same]) ho' ?_
    intro o2' ho2
    have hqq : q * q ≠ 0 := fun e => by
      rcases Rat.mul_eq_zero.1 e with e | e <;> exact hq e
    have r2 := MapR.put ho' q2' q3' q4' ho2 r3 (fun _ => hqq) hs2.sz (Nat.le_refl _)
    refine G.drop ((PH.mt.upd g1 o1').upd g2 o2') (by kernel_rfl) (fun g o hg => ?_) ?_
    · by_cases e : g = g2
      · subst e; rw [upd_same] at hg ⊢; exact hg
      · rw [upd_ne _ _ e] at hg ⊢
        by_cases e : g = g1
        · subst e; rw [upd_same] at hg ⊢; exact hg
        · rw [upd_ne _ _ e] at hg; cases hg
    exact G.ret (.agg #[.bool b, .slice a n c, .bool b', .slice a' n' c', .map (some g1), .map (some g2)]) (by kernel_rfl) ⟨b, a, n, c, b', a', n', c', g1, g2, o1', o2', rfl, h1.mono (l2.trans l3), hne, rfl, r1.mf l3, r2⟩
theorem oneP0 {u : PH} {x : Value} {p : Par} {q : Rat} (hx : FracP u x q) (hs : SB q) (hs2 : SB (q * q)) :
    Fn0 Tryz.prog 84 [parV p, x] u fun v' u' => MomP u' v' (CF.one1 p q) 1 :=
  Fn0.weak (Contract.giveAll (oneM0 hx hs hs2)) fun v u' ⟨u1, m1, l1, l2, h⟩ => h.give l1 l2
theorem wholeP0 {u : PH} {n : Int} (h1 : -9223372036854775808 ≤ n) (h2 : n ≤ 9223372036854775807) : Fn0 Tryz.prog 83 [.int .i64 n] u fun v' u' => MomP u' v' (CF.num (n : Rat)) 0 :=
  Fn0.weak (Contract.giveAll (whole0 h1 h2)) fun v u' ⟨u1, m1, l1, l2, h⟩ => MomM.give (F := CF.num (n : Rat)) h l1 l2
end Go.Proofs.YtikfmknnbjocmaaGreatDoor
end
section
set_option linter.unusedSectionVars false
set_option linter.unusedVariables false
namespace Go.Proofs.YtikfmknnbjocmaaGreatDoor
open Go.RowKit Go.MapKept
theorem isAtt0 {u m : PH} {f : Feat} {e a : Nat} (hb : ElP m e 0 (.int .i64 (a : Int))) : FnK Tryz.prog 82 [featV f, .pointer (some ⟨e, 0, none⟩)] u m fun v _ => v = .bool (f.1 == a) := by
  refine FnK.of Tryz.func82 (by kernel_rfl) (by kernel_rfl) ?_
  refine G.loadM none e 0 (.int .i64 (a : Int)) (by kernel_rfl) (by kernel_rfl) hb ?_
  by_cases h : f.1 = a
  · refine G.eqlT (f.1 : Int) (a : Int) (by kernel_rfl) (by omega) ?_
    rw [beq_iff_eq.2 h]
    exact G.ret (.bool true) (by kernel_rfl) ⟨rfl, rfl⟩
  · refine G.eqlF (f.1 : Int) (a : Int) (by kernel_rfl) (by omega) ?_
    rw [beq_eq_false_iff_ne.2 h]
    exact G.ret (.bool false) (by kernel_rfl) ⟨rfl, rfl⟩
def attF (F : List Feat) (a : Nat) : Int := idxF (fun f : Feat => f.1 == a) F
theorem liftLab0 {u : PH} {v : Value} {T : List (List UInt8 × Nat)} {R : List SRel} {F : List Feat} {a : Nat} {q : Rat} (h : SchP u v T R F (a : Int)) (ok : SchOK u T R F (a : Int)) (hq : Tx q) (hs : SB q) (hs2 : SB (q * q)) :
    Fn0 Tryz.prog 43 [v, .int .i64 (a : Int), .string (mkS (ratT q))] u fun v' u' => MomP u' v' (CF.one1 (-1, []) q) 1 := by
  obtain ⟨pa, ca, pb, cb, pe, ce, rfl, hT, hR, hF⟩ := h
  have hfl := ok.f2
  refine Fn0.of Tryz.func43 (by kernel_rfl) (by kernel_rfl) ?_
  refine G.pastI ?_
  refine G.pub 1 3 [.int .i64 (a : Int)] (by kernel_rfl) (by kernel_rfl) ?_
  intro e hu hm
  refine G.callK _ _ (by kernel_rfl) Tryz.call81 (fIndex0 (cap := .pointer (some ⟨e, 0, none⟩)) (fun f : Feat => f.1 == a) hF (by omega) Tryz.call82 fun f _ u' _ => isAtt0 (elP_int _ _ _ _)) ?_
  rintro v1 u1 l1 rfl
  refine G.loadM none e 0 (.int .i64 (a : Int)) (by kernel_rfl) (by kernel_rfl) (elP_int _ _ _ _) ?_
  refine G.eqlT (a : Int) (a : Int) (by kernel_rfl) rfl ?_
  refine G.eqSF (ratT q) [] (by kernel_rfl) ratT_nil ?_
  refine G.loadM none e 0 (.int .i64 (a : Int)) (by kernel_rfl) (by kernel_rfl) (elP_int _ _ _ _) ?_
  refine G.eqlT (a : Int) (a : Int) (by kernel_rfl) rfl ?_
  refine G.call0 _ _ (by kernel_rfl) Tryz.call54 (fracRead0 hq) ?_
  intro v2 u2 l2 r2
  refine G.call0 _ _ (by kernel_rfl) Tryz.call84 (oneP0 (p := (-1, [])) r2 hs hs2) ?_
  intro v3 u3 l3 r3
  obtain ⟨b, x, n, c, b', x', n', c', g1, g2, rfl⟩ := momP_opn r3
  refine G.drop PH.mt (by kernel_rfl) (PH.mt_le _) ?_
  exact G.ret (.agg #[.bool b, .slice x n c, .bool b', .slice x' n' c', .map (some g1), .map (some g2)]) (by kernel_rfl) ⟨rfl, r3⟩
theorem liftNum0 {u : PH} {v : Value} {T : List (List UInt8 × Nat)} {R : List SRel} {F : List Feat} {lab : Int} {a k : Nat} {q : Rat} (h : SchP u v T R F lab) (ok : SchOK u T R F lab) (hl : (a : Int) ≠ lab) (hk : attF F a = (k : Int)) (hk2 : ∃ mi, F[k]? = some (a, 1, mi)) (hq : Tx q) (hs : SB q) (hs2 : SB (q * q)) :
    Fn0 Tryz.prog 43 [v, .int .i64 (a : Int), .string (mkS (ratT q))] u fun v' u' => MomP u' v' (CF.one1 ((k : Int), []) q) 1 := by
  obtain ⟨pa, ca, pb, cb, pe, ce, rfl, hT, hR, hF⟩ := h
  have hfl := ok.f2
  obtain ⟨mi, hmi⟩ := hk2
  refine Fn0.of Tryz.func43 (by kernel_rfl) (by kernel_rfl) ?_
  refine G.pastI ?_
  refine G.pub 1 3 [.int .i64 (a : Int)] (by kernel_rfl) (by kernel_rfl) ?_
  intro e hu hm
  refine G.callK _ _ (by kernel_rfl) Tryz.call81 (fIndex0 (cap := .pointer (some ⟨e, 0, none⟩)) (fun f : Feat => f.1 == a) hF (by omega) Tryz.call82 fun f _ u' _ => isAtt0 (elP_int _ _ _ _)) ?_
  rintro v1 u1 l1 rfl
  unfold attF at hk
  rw [hk]
  refine G.loadM none e 0 (.int .i64 (a : Int)) (by kernel_rfl) (by kernel_rfl) (elP_int _ _ _ _) ?_
  refine G.eqlF (a : Int) lab (by kernel_rfl) hl ?_
  refine G.loadM none e 0 (.int .i64 (a : Int)) (by kernel_rfl) (by kernel_rfl) (elP_int _ _ _ _) ?_
  refine G.eqlF (a : Int) lab (by kernel_rfl) hl ?_
  refine G.lssF (k : Int) 0 (by kernel_rfl) (by omega) ?_
  obtain ⟨bb, ob, rfl, eb⟩ := ListP.at' (hF.mono l1) (j := k) (e := featV (a, 1, mi)) (by simp [hmi])
  obtain ⟨hkl, _⟩ := List.getElem?_eq_some_iff.1 hmi
  refine G.addr bb ob F.length ce k 3 (by kernel_rfl) hkl ?_
  refine G.loadU (some 3) bb (ob + k * 3) (.agg #[.int .i64 (a : Int), .int .i64 ((1 : Nat) : Int), .int .i64 (mi : Int)]) (by kernel_rfl) (by kernel_rfl) eb ?_
  refine G.eqlF ((1 : Nat) : Int) 2 (by kernel_rfl) (by omega) ?_
  refine G.eqSF (ratT q) [] (by kernel_rfl) ratT_nil ?_
  refine G.eqSF (ratT q) [] (by kernel_rfl) ratT_nil ?_
  refine G.call0 _ _ (by kernel_rfl) Tryz.call54 (fracRead0 hq) ?_
  intro v2 u2 l2 r2
  refine G.call0 _ _ (by kernel_rfl) Tryz.call84 (oneP0 (p := ((k : Int), [])) r2 hs hs2) ?_
  intro v3 u3 l3 r3
  obtain ⟨b, x, n, c, b', x', n', c', g1, g2, rfl⟩ := momP_opn r3
  refine G.drop PH.mt (by kernel_rfl) (PH.mt_le _) ?_
  exact G.ret (.agg #[.bool b, .slice x n c, .bool b', .slice x' n' c', .map (some g1), .map (some g2)]) (by kernel_rfl) ⟨rfl, r3⟩
end Go.Proofs.YtikfmknnbjocmaaGreatDoor
end
section
set_option linter.unusedSectionVars false
set_option linter.unusedVariables false
namespace Go.Proofs.YtikfmknnbjocmaaGreatDoor
open Go.RowKit Go.MapKept
set_option maxHeartbeats 1000000 in
theorem sum0 {u : PH} {v : Value} {F : CF} {K : Nat} (p : Par) (h : CofP u v F K) (hK : K ≤ 1000000) : Fn0 Tryz.prog 18 [v, parV p] u fun r _ => r = .string (mkS (ratT (F.s p))) := by
  obtain ⟨T, Q, a1, c1, a2, c2, rfl, hT, hQ, cT, cQ, kT, kQ⟩ := h
  refine Fn0.of Tryz.func18 (by kernel_rfl) (by kernel_rfl) ?_
  refine G.loop (ι := Nat) (fun i => [(3, .p 1 0), (8, .v (.slice a1 T.length c1)), (9, .v (.int .i64 (T.length : Int))), (10, .v (.int .i64 (i : Int)))]) (fun _ => [(1, ⟨43, [.v (.int .i64 p.1), .v (.string (mkS p.2))]⟩)])
    (fun i u' m' => i ≤ T.length ∧ (∀ j (hj : j < T.length), j < i → (T[j]'hj).1 ≠ p) ∧ m' = PH.mt) (fun i => T.length - i) 0 (by kernel_rfl) (fun _ => by kernel_rfl) ⟨by kernel_rfl, by kernel_rfl, by kernel_rfl⟩ ⟨by omega, fun j hj h => by omega, rfl⟩ ?_
  rintro J i hJ u1 m1 l1 ⟨hi, h0, rfl⟩
  by_cases hlt : i < T.length
  · refine G.lssT (i : Int) (T.length : Int) (by kernel_rfl) (by omega) ?_
    have hTi : T[i]? = some T[i] := List.getElem?_eq_getElem hlt
    have hval := (cT.val _ (List.getElem_mem hlt)).1
    obtain ⟨ba, oa, rfl, ea⟩ := ListP.at' (hT.mono l1) (j := i) (e := termV T[i]) (by simp [hTi])
    refine G.addr ba oa T.length c1 i 3 (by kernel_rfl) (by omega) ?_
    refine G.loadU (some 3) ba (oa + i * 3) (.agg #[.int .i64 T[i].1.1, .string (mkS T[i].1.2), .string (mkS (ratT T[i].2))]) (by kernel_rfl) (by kernel_rfl) ea ?_
    by_cases he : T[i].1 = p
    · refine G.eqAgg 43 #[.int .i64 T[i].1.1, .string (mkS T[i].1.2)] #[.int .i64 p.1, .string (mkS p.2)] true (by kernel_rfl) (by kernel_rfl) (by kernel_rfl) (fun w => by rw [← decide_eq_true he]; exact keyPar.eq T[i].1 p w) ?_
      exact G.ret (.string (mkS (ratT T[i].2))) (by kernel_rfl) ⟨rfl, by rw [hval, he]⟩
    · refine G.eqAgg 43 #[.int .i64 T[i].1.1, .string (mkS T[i].1.2)] #[.int .i64 p.1, .string (mkS p.2)] false (by kernel_rfl) (by kernel_rfl) (by kernel_rfl) (fun w => by rw [← decide_eq_false he]; exact keyPar.eq T[i].1 p w) ?_
      refine G.add (i : Int) 1 ((i + 1 : Nat) : Int) (by kernel_rfl) (by omega) (by omega) (by omega) ?_
      exact G.back (by kernel_rfl) (hJ (i + 1) _ _ _ ⟨by kernel_rfl, by kernel_rfl, by kernel_rfl⟩ l1 ⟨by omega, fun j hj h => by
        rcases (by omega : j < i ∨ j = i) with e | rfl
        · exact h0 j hj e
        · exact he, rfl⟩ (by omega))
  · obtain rfl : i = T.length := by omega
    refine G.lssF (T.length : Int) (T.length : Int) (by kernel_rfl) (by omega) ?_
    have hz : F.s p = 0 := cT.out p fun hm => by
      obtain ⟨x, hx, e⟩ := List.mem_map.1 hm
      obtain ⟨j, hj, rfl⟩ := List.getElem_of_mem hx
      exact h0 j hj hj e
    exact G.ret (.string (mkS [48])) (by kernel_rfl) ⟨rfl, by rw [hz, ratT_zero]⟩
set_option maxHeartbeats 4000000 in
theorem product0 {u : PH} {v : Value} {F : CF} {K : Nat} (p q : Par) (h : CofP u v F K) (hK : K ≤ 1000000) : Fn0 Tryz.prog 20 [v, parV p, parV q] u fun r _ => r = .string (mkS (ratT (F.t (pairP p q)))) := by
  obtain ⟨T, Q, a1, c1, a2, c2, rfl, hT, hQ, cT, cQ, kT, kQ⟩ := h
  refine Fn0.of Tryz.func20 (by kernel_rfl) (by kernel_rfl) ?_
  by_cases hsw : cmpP q p < 0
  · rw [show pairP p q = (q, p) by unfold pairP; rw [if_pos ((ordP.sym _ _).1 hsw)]]
    refine G.call0 _ _ (by kernel_rfl) Tryz.call35 (less0 q p true (decide_eq_true hsw)) ?_
    rintro v0 u0 l0 rfl
    refine G.loop (ι := Nat) (fun i => [(4, .p 1 0), (5, .p 2 0), (15, .v (.slice a2 Q.length c2)), (16, .v (.int .i64 (Q.length : Int))), (17, .v (.int .i64 (i : Int)))]) (fun _ => [(1, ⟨43, [.v (.int .i64 q.1), .v (.string (mkS q.2))]⟩), (2, ⟨43, [.v (.int .i64 p.1), .v (.string (mkS p.2))]⟩)])
      (fun i u' m' => i ≤ Q.length ∧ (∀ j (hj : j < Q.length), j < i → (Q[j]'hj).1 ≠ (q, p)) ∧ m' = PH.mt) (fun i => Q.length - i) 0 (by kernel_rfl) (fun _ => by kernel_rfl) ⟨by kernel_rfl, by kernel_rfl, by kernel_rfl⟩ ⟨by omega, fun j hj h => by omega, rfl⟩ ?_
    rintro J i hJ u1 m1 l1 ⟨hi, h0, rfl⟩
    by_cases hlt : i < Q.length
    · refine G.lssT (i : Int) (Q.length : Int) (by kernel_rfl) (by omega) ?_
      have hTi : Q[i]? = some Q[i] := List.getElem?_eq_getElem hlt
      have hval := (cQ.val _ (List.getElem_mem hlt)).1
      obtain ⟨ba, oa, rfl, ea⟩ := ListP.at' (hQ.mono (l0.trans l1)) (j := i) (e := prtV Q[i]) (by simp [hTi])
      have hback : Q[i].1 ≠ (q, p) → ∀ j (hj : j < Q.length), j < i + 1 → (Q[j]'hj).1 ≠ (q, p) := fun hne j hj h => by
        rcases (by omega : j < i ∨ j = i) with e | rfl
        · exact h0 j hj e
        · exact hne
      refine G.addr ba oa Q.length c2 i 5 (by kernel_rfl) (by omega) ?_
      refine G.loadU (some 5) ba (oa + i * 5) (.agg #[.int .i64 Q[i].1.1.1, .string (mkS Q[i].1.1.2), .int .i64 Q[i].1.2.1, .string (mkS Q[i].1.2.2), .string (mkS (ratT Q[i].2))]) (by kernel_rfl) (by kernel_rfl) ea ?_
      by_cases he : Q[i].1.1 = q
      · refine G.eqAgg 43 #[.int .i64 Q[i].1.1.1, .string (mkS Q[i].1.1.2)] #[.int .i64 q.1, .string (mkS q.2)] true (by kernel_rfl) (by kernel_rfl) (by kernel_rfl) (fun w => by rw [← decide_eq_true he]; exact keyPar.eq Q[i].1.1 q w) ?_
        by_cases he2 : Q[i].1.2 = p
        · refine G.eqAgg 43 #[.int .i64 Q[i].1.2.1, .string (mkS Q[i].1.2.2)] #[.int .i64 p.1, .string (mkS p.2)] true (by kernel_rfl) (by kernel_rfl) (by kernel_rfl) (fun w => by rw [← decide_eq_true he2]; exact keyPar.eq Q[i].1.2 p w) ?_
          exact G.ret (.string (mkS (ratT Q[i].2))) (by kernel_rfl) ⟨rfl, by rw [hval, show Q[i].1 = (q, p) from Prod.ext he he2]⟩
        · refine G.eqAgg 43 #[.int .i64 Q[i].1.2.1, .string (mkS Q[i].1.2.2)] #[.int .i64 p.1, .string (mkS p.2)] false (by kernel_rfl) (by kernel_rfl) (by kernel_rfl) (fun w => by rw [← decide_eq_false he2]; exact keyPar.eq Q[i].1.2 p w) ?_
          refine G.add (i : Int) 1 ((i + 1 : Nat) : Int) (by kernel_rfl) (by omega) (by omega) (by omega) ?_
          exact G.back (by kernel_rfl) (hJ (i + 1) _ _ _ ⟨by kernel_rfl, by kernel_rfl, by kernel_rfl⟩ l1 ⟨by omega, hback fun e => he2 (congrArg Prod.snd e), rfl⟩ (by omega))
      · refine G.eqAgg 43 #[.int .i64 Q[i].1.1.1, .string (mkS Q[i].1.1.2)] #[.int .i64 q.1, .string (mkS q.2)] false (by kernel_rfl) (by kernel_rfl) (by kernel_rfl) (fun w => by rw [← decide_eq_false he]; exact keyPar.eq Q[i].1.1 q w) ?_
        refine G.add (i : Int) 1 ((i + 1 : Nat) : Int) (by kernel_rfl) (by omega) (by omega) (by omega) ?_
        exact G.back (by kernel_rfl) (hJ (i + 1) _ _ _ ⟨by kernel_rfl, by kernel_rfl, by kernel_rfl⟩ l1 ⟨by omega, hback fun e => he (congrArg Prod.fst e), rfl⟩ (by omega))
    · obtain rfl : i = Q.length := by omega
      refine G.lssF (Q.length : Int) (Q.length : Int) (by kernel_rfl) (by omega) ?_
      have hz : F.t (q, p) = 0 := cQ.out (q, p) fun hm => by
        obtain ⟨x, hx, e⟩ := List.mem_map.1 hm
        obtain ⟨j, hj, rfl⟩ := List.getElem_of_mem hx
        exact h0 j hj hj e
      exact G.ret (.string (mkS [48])) (by kernel_rfl) ⟨rfl, by rw [hz, ratT_zero]⟩
  · rw [show pairP p q = (p, q) by unfold pairP; rw [if_neg fun e => hsw ((ordP.sym _ _).2 e)]]
    refine G.call0 _ _ (by kernel_rfl) Tryz.call35 (less0 q p false (decide_eq_false hsw)) ?_
    rintro v0 u0 l0 rfl
    refine G.loop (ι := Nat) (fun i => [(4, .p 1 0), (5, .p 2 0), (15, .v (.slice a2 Q.length c2)), (16, .v (.int .i64 (Q.length : Int))), (17, .v (.int .i64 (i : Int)))]) (fun _ => [(1, ⟨43, [.v (.int .i64 p.1), .v (.string (mkS p.2))]⟩), (2, ⟨43, [.v (.int .i64 q.1), .v (.string (mkS q.2))]⟩)])
      (fun i u' m' => i ≤ Q.length ∧ (∀ j (hj : j < Q.length), j < i → (Q[j]'hj).1 ≠ (p, q)) ∧ m' = PH.mt) (fun i => Q.length - i) 0 (by kernel_rfl) (fun _ => by kernel_rfl) ⟨by kernel_rfl, by kernel_rfl, by kernel_rfl⟩ ⟨by omega, fun j hj h => by omega, rfl⟩ ?_
    rintro J i hJ u1 m1 l1 ⟨hi, h0, rfl⟩
    by_cases hlt : i < Q.length
    · refine G.lssT (i : Int) (Q.length : Int) (by kernel_rfl) (by omega) ?_
      have hTi : Q[i]? = some Q[i] := List.getElem?_eq_getElem hlt
      have hval := (cQ.val _ (List.getElem_mem hlt)).1
      obtain ⟨ba, oa, rfl, ea⟩ := ListP.at' (hQ.mono (l0.trans l1)) (j := i) (e := prtV Q[i]) (by simp [hTi])
      have hback : Q[i].1 ≠ (p, q) → ∀ j (hj : j < Q.length), j < i + 1 → (Q[j]'hj).1 ≠ (p, q) := fun hne j hj h => by
        rcases (by omega : j < i ∨ j = i) with e | rfl
        · exact h0 j hj e
        · exact hne
      refine G.addr ba oa Q.length c2 i 5 (by kernel_rfl) (by omega) ?_
      refine G.loadU (some 5) ba (oa + i * 5) (.agg #[.int .i64 Q[i].1.1.1, .string (mkS Q[i].1.1.2), .int .i64 Q[i].1.2.1, .string (mkS Q[i].1.2.2), .string (mkS (ratT Q[i].2))]) (by kernel_rfl) (by kernel_rfl) ea ?_
      by_cases he : Q[i].1.1 = p
      · refine G.eqAgg 43 #[.int .i64 Q[i].1.1.1, .string (mkS Q[i].1.1.2)] #[.int .i64 p.1, .string (mkS p.2)] true (by kernel_rfl) (by kernel_rfl) (by kernel_rfl) (fun w => by rw [← decide_eq_true he]; exact keyPar.eq Q[i].1.1 p w) ?_
        by_cases he2 : Q[i].1.2 = q
        · refine G.eqAgg 43 #[.int .i64 Q[i].1.2.1, .string (mkS Q[i].1.2.2)] #[.int .i64 q.1, .string (mkS q.2)] true (by kernel_rfl) (by kernel_rfl) (by kernel_rfl) (fun w => by rw [← decide_eq_true he2]; exact keyPar.eq Q[i].1.2 q w) ?_
          exact G.ret (.string (mkS (ratT Q[i].2))) (by kernel_rfl) ⟨rfl, by rw [hval, show Q[i].1 = (p, q) from Prod.ext he he2]⟩
        · refine G.eqAgg 43 #[.int .i64 Q[i].1.2.1, .string (mkS Q[i].1.2.2)] #[.int .i64 q.1, .string (mkS q.2)] false (by kernel_rfl) (by kernel_rfl) (by kernel_rfl) (fun w => by rw [← decide_eq_false he2]; exact keyPar.eq Q[i].1.2 q w) ?_
          refine G.add (i : Int) 1 ((i + 1 : Nat) : Int) (by kernel_rfl) (by omega) (by omega) (by omega) ?_
          exact G.back (by kernel_rfl) (hJ (i + 1) _ _ _ ⟨by kernel_rfl, by kernel_rfl, by kernel_rfl⟩ l1 ⟨by omega, hback fun e => he2 (congrArg Prod.snd e), rfl⟩ (by omega))
      · refine G.eqAgg 43 #[.int .i64 Q[i].1.1.1, .string (mkS Q[i].1.1.2)] #[.int .i64 p.1, .string (mkS p.2)] false (by kernel_rfl) (by kernel_rfl) (by kernel_rfl) (fun w => by rw [← decide_eq_false he]; exact keyPar.eq Q[i].1.1 p w) ?_
        refine G.add (i : Int) 1 ((i + 1 : Nat) : Int) (by kernel_rfl) (by omega) (by omega) (by omega) ?_
        exact G.back (by kernel_rfl) (hJ (i + 1) _ _ _ ⟨by kernel_rfl, by kernel_rfl, by kernel_rfl⟩ l1 ⟨by omega, hback fun e => he (congrArg Prod.fst e), rfl⟩ (by omega))
    · obtain rfl : i = Q.length := by omega
      refine G.lssF (Q.length : Int) (Q.length : Int) (by kernel_rfl) (by omega) ?_
      have hz : F.t (p, q) = 0 := cQ.out (p, q) fun hm => by
        obtain ⟨x, hx, e⟩ := List.mem_map.1 hm
        obtain ⟨j, hj, rfl⟩ := List.getElem_of_mem hx
        exact h0 j hj hj e
      exact G.ret (.string (mkS [48])) (by kernel_rfl) ⟨rfl, by rw [hz, ratT_zero]⟩
end Go.Proofs.YtikfmknnbjocmaaGreatDoor
end
section
set_option linter.unusedSectionVars false
set_option linter.unusedVariables false
namespace Go.Proofs.YtikfmknnbjocmaaGreatDoor
open Go.RowKit Go.MapKept
theorem one1_cfd {d N : Nat} {p : Par} {q : Rat} (h1 : Dn d N 1) (hq : Dn d N q) (h2 : Dn d N (q * q)) : CFD d N (CF.one1 p q) :=
  ⟨h1, fun k => by
    show Dn d N (setF (fun _ => (0 : Rat)) p q k)
    unfold setF; split
    · exact hq
    · exact Dn.zero _ _, fun k => by
    show Dn d N (setF (fun _ => (0 : Rat)) (p, p) (q * q) k)
    unfold setF; split
    · exact h2
    · exact Dn.zero _ _⟩
theorem one1_cfv {p : Par} {q : Rat} (hp : PV p) : CFV (CF.one1 p q) :=
  ⟨fun k hk => by
    have hk : setF (fun _ => (0 : Rat)) p q k ≠ 0 := hk
    unfold setF at hk
    split at hk
    · subst_vars; exact hp
    · exact absurd rfl hk, fun k hk => by
    have hk : setF (fun _ => (0 : Rat)) (p, p) (q * q) k ≠ 0 := hk
    unfold setF at hk
    split at hk
    · subst_vars
      exact ⟨hp, hp, fun e => by
      have e : 0 < cmpP p p := e
      have := (ordP.sym _ _).2 e
      omega⟩
    · exact absurd rfl hk⟩
set_option maxHeartbeats 1000000 in
theorem ringLift0 {u : PH} {v : Value} {T : List (List UInt8 × Nat)} {R : List SRel} {F : List Feat} {lab : Int} {a : Nat} {s : List UInt8} {x : List UInt8 × Nat} {H : CF} {N : Nat} (ht : TabU u) (h : SchP u v T R F lab) (ok : SchOK u T R F lab) (hx : T[a]? = some x)
    (hval : ∀ u', PH.le u u' → Fn0 Tryz.prog 42 [attV x, .string (mkS s)] u' fun r _ => r = .bool true)
    (hlift : ∀ u', PH.le u u' → Fn0 Tryz.prog 43 [v, .int .i64 (a : Int), .string (mkS s)] u' fun r u'' => MomP u'' r H N) (sH : CFS H) (hN : N ≤ 1000000) :
    Fn0 Tryz.prog 14 [v, .int .i64 (a : Int), .string (mkS s)] u fun r u' => RngP u' r H N := by
  have hc : ∀ u', PH.le u u' → Fn0 Tryz.prog 41 [v] u' fun r _ => r = .int .i64 0 := fun u' l => check0 (h.mono l) (ok.mono l)
  obtain ⟨pa, ca, pb, cb, pe, ce, rfl, hT, hR, hF⟩ := h
  obtain ⟨hal, _⟩ := List.getElem?_eq_some_iff.1 hx
  have ht2 := ok.t2
  refine Fn0.of Tryz.func14 (by kernel_rfl) (by kernel_rfl) ?_
  refine G.call0 _ _ (by kernel_rfl) Tryz.call41 (hc u (PH.le_refl _)) ?_
  rintro v1 u1 l1 rfl
  refine G.neqF 0 0 (by kernel_rfl) (by omega) ?_
  refine G.lssF (a : Int) 0 (by kernel_rfl) (by omega) ?_
  refine G.geqF (a : Int) (T.length : Int) (by kernel_rfl) (by omega) ?_
  obtain ⟨bb, ob, rfl, eb⟩ := ListP.at' (hT.mono l1) (j := a) (e := attV x) (by simp [hx])
  refine G.addr bb ob T.length ca a 2 (by kernel_rfl) hal ?_
  refine G.loadU (some 2) bb (ob + a * 2) (attV x) (by kernel_rfl) (by kernel_rfl) eb ?_
  refine G.call0 _ _ (by kernel_rfl) Tryz.call42 (hval u1 l1) ?_
  rintro v2 u2 l2 rfl
  refine G.call0 _ _ (by kernel_rfl) Tryz.call43 (hlift u2 (l1.trans l2)) ?_
  intro v3 u3 l3 k3
  obtain ⟨_, _, _, _, _, _, _, _, _, _, rfl⟩ := momP_opn k3
  refine G.call0 _ _ (by kernel_rfl) Tryz.call44 (cofactor0 (ht.mono ((l1.trans l2).trans l3)) k3 sH hN) ?_
  rintro v4 u4 l4 ⟨r, rfl, k4⟩
  obtain ⟨e1, f1, g1, e2, f2, g2, rfl⟩ := k4.opn
  exact G.ret _ (by kernel_rfl) ⟨rfl, _, rfl, k4⟩
def bothT : List (List UInt8 × Nat) := [([120], 2), ([121], 2)]
def bothR (g : Nat) : List SRel := [([114], [0, 1], (some ⟨g, 0, none⟩, 2))]
def bothF : List Feat := [(0, 1, 0)]
theorem ElsP.listP {u : PH} {g sz : Nat} {es : List Value} (h : ElsP u g 0 sz es) : ListP u (.slice (some ⟨g, 0, none⟩) es.length es.length) sz es := ⟨_, _, rfl, Nat.le_refl _, fun j e hj => ⟨g, 0, rfl, h j e hj⟩⟩
theorem names_of {L : List (List UInt8)} (h : (L.all wordB && decide L.Nodup) = true) : Names L := by
  rw [Bool.and_eq_true, List.all_eq_true, decide_eq_true_iff] at h
  exact ⟨h.1, h.2⟩
theorem bothOK {u : PH} {g : Nat} (h : ListP u (.slice (some ⟨g, 0, none⟩) 2 2) 1 (intsV [0, 1])) : SchOK u bothT (bothR g) bothF 1 where
  att := ⟨names_of (by decide +kernel), fun a ha => by simp [bothT] at ha; rcases ha with rfl | rfl <;> decide⟩
  rel := ⟨names_of (by show (([[114]] : List (List UInt8)).all wordB && decide ([[114]] : List (List UInt8)).Nodup) = true; decide +kernel), fun r hr => by simp [bothR] at hr; subst hr; simp, fun r hr a ha => by simp [bothR] at hr; subst hr; simp at ha; show a < 2; omega, fun r hr => by simp [bothR] at hr; subst hr; simp, fun r hr k x y h1 h2 => by
    simp [bothR] at hr; subst hr
    match k, h1, h2 with
    | 0, h1, h2 => simp at h1 h2; omega
    | k + 1, h1, h2 => simp at h2, fun a ha => ⟨_, List.mem_singleton.2 rfl, by
    have : a < 2 := ha
    simp; omega⟩, fun r hr => by simp [bothR] at hr; subst hr; exact h⟩
  feat := ⟨fun f hf => by simp [bothF] at hf; subst hf; exact ⟨[120], 2, rfl, .inl ⟨rfl, rfl, by decide⟩, by decide⟩, by decide⟩
  t1 := by decide
  t2 := by decide
  r1 := by show 0 < 1; omega
  r2 := by show 1 ≤ 6; omega
  f2 := by decide
  l1 := by decide
  l2 := fun l hl => by
    obtain rfl : l = 1 := by omega
    exact ⟨[121], rfl⟩
theorem both0 {u : PH} : Fn0 Tryz.prog 34 [] u fun v u' => ∃ g, SchP u' v bothT (bothR g) bothF 1 ∧ SchOK u' bothT (bothR g) bothF 1 := by
  refine Fn0.of Tryz.func34 (by kernel_rfl) (by kernel_rfl) ?_
  refine G.buildU 77 2 24 (.agg #[.string (mkS []), .int .i64 0]) [.agg #[.string (mkS [120]), .int .i64 ((2 : Nat) : Int)], .agg #[.string (mkS [121]), .int .i64 ((2 : Nat) : Int)]] (by kernel_rfl) (fun x hx => by
    simp only [List.mem_cons, List.not_mem_nil, or_false] at hx
    rcases hx with rfl | rfl <;> exact ⟨rfl, List.all_eq_true.1 rfl⟩) rfl (by omega) (by simp) (by simp) ?_
  intro g1 u1 l1 e1
  refine G.buildU 3 1 8 (.int .i64 0) [.int .i64 ((0 : Nat) : Int), .int .i64 ((1 : Nat) : Int)] (by kernel_rfl) (intsV_ok [0, 1]) rfl (by omega) (by simp) (by simp) ?_
  intro g2 u2 l2 e2
  refine G.buildU 79 2 40 (.agg #[.string (mkS []), .slice none 0 0]) [.agg #[.string (mkS [114]), .slice (some ⟨g2, 0, none⟩) 2 2]] (by kernel_rfl) (fun x hx => by
    simp only [List.mem_cons, List.not_mem_nil, or_false] at hx
    subst hx; exact ⟨rfl, List.all_eq_true.1 rfl⟩) rfl (by omega) (by simp) (by simp) ?_
  intro g3 u3 l3 e3
  refine G.buildU 50 3 24 (.agg #[.int .i64 0, .int .i64 0, .int .i64 0]) [.agg #[.int .i64 ((0 : Nat) : Int), .int .i64 ((1 : Nat) : Int), .int .i64 ((0 : Nat) : Int)]] (by kernel_rfl) (fun x hx => by
    simp only [List.mem_cons, List.not_mem_nil, or_false] at hx
    subst hx; exact ⟨rfl, List.all_eq_true.1 rfl⟩) rfl (by omega) (by simp) (by simp) ?_
  intro g4 u4 l4 e4
  exact G.ret (.agg #[.slice (some ⟨g1, 0, none⟩) 2 2, .slice (some ⟨g3, 0, none⟩) 1 1, .slice (some ⟨g4, 0, none⟩) 1 1, .int .i64 1]) (by kernel_rfl)
    ⟨rfl, g2, ⟨_, _, _, _, _, _, rfl, e1.listP.mono ((l2.trans l3).trans l4), e3.listP.mono l4, e4.listP⟩, bothOK (e2.listP.mono (l3.trans l4))⟩
end Go.Proofs.YtikfmknnbjocmaaGreatDoor
end
section
set_option linter.unusedSectionVars false
set_option linter.unusedVariables false
namespace Go.Proofs.YtikfmknnbjocmaaGreatDoor
open Go.RowKit Go.MapKept
abbrev sX : CF := CF.one1 (((0 : Nat) : Int), []) 2
abbrev sY : CF := CF.one1 (-1, []) 3
theorem sX_d : CFD 0 9 sX := one1_cfd ⟨1, by decide +kernel, by decide⟩ ⟨2, by decide +kernel, by decide⟩ ⟨4, by decide +kernel, by decide⟩
theorem sY_d : CFD 0 9 sY := one1_cfd ⟨1, by decide +kernel, by decide⟩ ⟨3, by decide +kernel, by decide⟩ ⟨9, by decide +kernel, by decide⟩
theorem sX_v : CFV sX := one1_cfv ⟨by decide, by decide, .inl rfl⟩
theorem sY_v : CFV sY := one1_cfv ⟨by decide, by decide, .inl rfl⟩
theorem sXY_s : CFS (sX.mul sY) := (sX_d.mul sY_d).cfs (by omega) (by decide +kernel)
theorem sXY_ok : MulOK sX sY := mulOK sX_d sY_d (by omega) (by decide +kernel) (by omega) (by omega)
theorem t2 : ratT 2 = [50] := by decide +kernel
theorem t3 : ratT 3 = [51] := by decide +kernel
theorem liftX0 {u : PH} {v : Value} {g : Nat} (ht : TabU u) (h : SchP u v bothT (bothR g) bothF 1) (ok : SchOK u bothT (bothR g) bothF 1) :
    Fn0 Tryz.prog 14 [v, .int .i64 0, .string (mkS [50])] u fun r u' => RngP u' r sX 1 := by
  have hd : Dat 2 := ⟨by decide, by decide⟩
  have h1 : ∀ u', Fn0 Tryz.prog 42 [attV ([120], 2), .string (mkS [50])] u' fun r _ => r = .bool true := fun u' => by
    have := valueN0 (u := u') (s := [120]) hd
    rw [t2] at this; exact this
  have h2 : ∀ u', PH.le u u' → Fn0 Tryz.prog 43 [v, .int .i64 ((0 : Nat) : Int), .string (mkS [50])] u' fun r u'' => MomP u'' r sX 1 := fun u' l => by
    have := liftNum0 (a := 0) (k := 0) (q := 2) (h.mono l) (ok.mono l) (by decide) (by decide +kernel) ⟨0, rfl⟩ hd.tx (by decide +kernel) (by decide +kernel)
    rw [t2] at this; exact this
  exact ringLift0 (a := 0) (x := ([120], 2)) ht h ok rfl (fun u' _ => h1 u') h2 (sX_d.cfs (by omega) (by decide +kernel)) (by omega)
theorem liftY0 {u : PH} {v : Value} {g : Nat} (ht : TabU u) (h : SchP u v bothT (bothR g) bothF 1) (ok : SchOK u bothT (bothR g) bothF 1) :
    Fn0 Tryz.prog 14 [v, .int .i64 1, .string (mkS [51])] u fun r u' => RngP u' r sY 1 := by
  have hd : Dat 3 := ⟨by decide, by decide⟩
  have h1 : ∀ u', Fn0 Tryz.prog 42 [attV ([121], 2), .string (mkS [51])] u' fun r _ => r = .bool true := fun u' => by
    have := valueN0 (u := u') (s := [121]) hd
    rw [t3] at this; exact this
  have h2 : ∀ u', PH.le u u' → Fn0 Tryz.prog 43 [v, .int .i64 ((1 : Nat) : Int), .string (mkS [51])] u' fun r u'' => MomP u'' r sY 1 := fun u' l => by
    have := liftLab0 (a := 1) (q := 3) (h.mono l) (ok.mono l) hd.tx (by decide +kernel) (by decide +kernel)
    rw [t3] at this; exact this
  exact ringLift0 (a := 1) (x := ([121], 2)) ht h ok rfl (fun u' _ => h1 u') h2 (sY_d.cfs (by omega) (by decide +kernel)) (by omega)
set_option maxHeartbeats 4000000 in
theorem sane0 {u : PH} (ht : TabU u) : Fn0 Tryz.prog 8 [] u fun r _ => r = .bool true := by
  refine Fn0.of Tryz.func8 (by kernel_rfl) (by kernel_rfl) ?_
  refine G.call0 _ _ (by kernel_rfl) Tryz.call34 both0 ?_
  rintro v1 u1 l1 ⟨g1, h1, ok1⟩
  refine G.call0 _ _ (by kernel_rfl) Tryz.call14 (liftX0 (ht.mono l1) h1 ok1) ?_
  rintro v2 u2 l2 ⟨c2, rfl, k2⟩
  obtain ⟨a2, n2, d2, a2', n2', d2', rfl⟩ := k2.opn
  refine G.call0 _ _ (by kernel_rfl) Tryz.call34 both0 ?_
  rintro v3 u3 l3 ⟨g3, h3, ok3⟩
  refine G.call0 _ _ (by kernel_rfl) Tryz.call14 (liftY0 (ht.mono ((l1.trans l2).trans l3)) h3 ok3) ?_
  rintro v4 u4 l4 ⟨c4, rfl, k4⟩
  obtain ⟨a4, n4, d4, a4', n4', d4', rfl⟩ := k4.opn
  refine G.call0 _ _ (by kernel_rfl) Tryz.call15 (ringMul0 (ht.mono (((l1.trans l2).trans l3).trans l4)) (k2.mono (l3.trans l4)) k4 sX_v sY_v sXY_ok sXY_s (by omega) (by omega)) ?_
  rintro v5 u5 l5 ⟨c5, rfl, k5⟩
  obtain ⟨a5, n5, d5, a5', n5', d5', rfl⟩ := k5.opn
  refine G.eqlT 0 0 (by kernel_rfl) (by omega) ?_
  refine G.eqlT 0 0 (by kernel_rfl) (by omega) ?_
  refine G.eqlT 0 0 (by kernel_rfl) (by omega) ?_
  refine G.eqST (ratT (sX.mul sY).c) [49] (by kernel_rfl) (by decide +kernel) ?_
  refine G.call0 _ _ (by kernel_rfl) Tryz.call18 (sum0 (-1, []) k5 (by omega)) ?_
  rintro v6 u6 l6 rfl
  refine G.eqST (ratT ((sX.mul sY).s (-1, []))) [51] (by kernel_rfl) (by decide +kernel) ?_
  refine G.call0 _ _ (by kernel_rfl) Tryz.call18 (sum0 (0, []) (k5.mono l6) (by omega)) ?_
  rintro v7 u7 l7 rfl
  refine G.eqST (ratT ((sX.mul sY).s (0, []))) [50] (by kernel_rfl) (by decide +kernel) ?_
  refine G.call0 _ _ (by kernel_rfl) Tryz.call20 (product0 (0, []) (-1, []) (k5.mono (l6.trans l7)) (by omega)) ?_
  rintro v8 u8 l8 rfl
  refine G.eqST (ratT ((sX.mul sY).t (pairP (0, []) (-1, [])))) [54] (by kernel_rfl) (by decide +kernel) ?_
  refine G.call0 _ _ (by kernel_rfl) Tryz.call20 (product0 (-1, []) (-1, []) (k5.mono ((l6.trans l7).trans l8)) (by omega)) ?_
  rintro v9 u9 l9 rfl
  refine G.eqST (ratT ((sX.mul sY).t (pairP (-1, []) (-1, [])))) [57] (by kernel_rfl) (by decide +kernel) ?_
  refine G.call0 _ _ (by kernel_rfl) Tryz.call33 (valid0 (k5.mono (((l6.trans l7).trans l8).trans l9)) sXY_s (sX_v.mul sY_v) (by omega)) ?_
  rintro v10 u10 l10 rfl
  refine G.call0 _ _ (by kernel_rfl) Tryz.call35 (less0 (-1, []) (0, []) true (by decide +kernel)) ?_
  rintro v11 u11 l11 rfl
  refine G.call0 _ _ (by kernel_rfl) Tryz.call12 ringOne0 ?_
  rintro v12 u12 l12 rfl
  have hb := cofP_num u12 1
  rw [ratT_one] at hb ⊢
  refine G.call0 _ _ (by kernel_rfl) Tryz.call16 (same0 hb hb (by omega)) ?_
  rintro v13 u13 l13 rfl
  exact G.ret (.bool true) (by kernel_rfl) ⟨rfl, rfl⟩
end Go.Proofs.YtikfmknnbjocmaaGreatDoor
end
section
set_option linter.unusedSectionVars false
set_option linter.unusedVariables false
namespace Go.Proofs.YtikfmknnbjocmaaGreatDoor
open Go.RowKit
end Go.Proofs.YtikfmknnbjocmaaGreatDoor
end
section
set_option linter.unusedSectionVars false
set_option linter.unusedVariables false
namespace Go.Proofs.YtikfmknnbjocmaaGreatDoor
open Go.RowKit Go.MapKept
theorem pw {n : Nat} (h : n < 10 ^ 30) : n < 10 ^ 100 := Nat.lt_of_lt_of_le h (by decide +kernel)
end Go.Proofs.YtikfmknnbjocmaaGreatDoor
end
section
set_option linter.unusedSectionVars false
set_option linter.unusedVariables false
namespace Go.Proofs.YtikfmknnbjocmaaGreatDoor
open Go.RowKit Go.MapKept
theorem refMulT {u : PH} {q r : Rat} (h : Tx q) (h' : Tx r) (h2 : Tx (q * r)) : Fn0 Tryz.prog 19 [.string (mkS (ratT q)), .string (mkS (ratT r))] u fun v _ => v = .tuple #[.string (mkS (ratT (q * r))), .int .i64 0] := by
  refine Fn0.of Tryz.func19 (by kernel_rfl) (by kernel_rfl) ?_
  refine G.call0 _ _ (by kernel_rfl) Tryz.call49 (refValid0 h) ?_
  rintro v1 u1 l1 rfl
  refine G.call0 _ _ (by kernel_rfl) Tryz.call49 (refValid0 h') ?_
  rintro v2 u2 l2 rfl
  refine G.call0 _ _ (by kernel_rfl) Tryz.call27 (refReadT h) ?_
  intro v3 u3 l3 k3
  obtain ⟨b3, a3, n3, c3, a3', n3', c3', rfl, _⟩ := k3.opn
  refine G.call0 _ _ (by kernel_rfl) Tryz.call27 (refReadT h') ?_
  intro v4 u4 l4 k4
  obtain ⟨b4, a4, n4, c4, a4', n4', c4', rfl, _⟩ := k4.opn
  refine G.call0 _ _ (by kernel_rfl) Tryz.call29 (refMul0 (k3.mono l4) k4 (h.sz.mono (by omega)) (h'.sz.mono (by omega))) ?_
  intro v5 u5 l5 k5
  obtain ⟨b5, a5, n5, c5, a5', n5', c5', rfl, _⟩ := k5.opn
  refine G.call0 _ _ (by kernel_rfl) Tryz.call31 (refGive0 k5 h2) ?_
  rintro v6 u6 l6 rfl
  exact G.ret _ (by kernel_rfl) ⟨rfl, rfl⟩
end Go.Proofs.YtikfmknnbjocmaaGreatDoor
end
section
set_option linter.unusedSectionVars false
set_option linter.unusedVariables false
namespace Go.Proofs.YtikfmknnbjocmaaGreatDoor
open Go.RowKit Go.MapKept
theorem intValidE0 {u : PH} : Fn0 Tryz.prog 104 [.string (mkS [])] u fun v _ => v = .bool false := by
  refine Fn0.of Tryz.func104 (by kernel_rfl) (by kernel_rfl) ?_
  refine G.eqSF [] [48] (by kernel_rfl) (by decide) ?_
  refine G.call0 _ _ (by kernel_rfl) Tryz.call145 (trimPrefix0 (s := []) (p := [45])) ?_
  rintro v1 u1 l1 rfl
  refine G.eqST (Lib.trimPrefix [] [45]) [] (by kernel_rfl) rfl ?_
  exact G.ret (.bool false) (by kernel_rfl) ⟨rfl, rfl⟩
theorem ratValidE0 {u : PH} : Fn0 Tryz.prog 52 [.string (mkS [])] u fun v _ => v = .bool false := by
  refine Fn0.of Tryz.func52 (by kernel_rfl) (by kernel_rfl) ?_
  refine G.call0 _ _ (by kernel_rfl) Tryz.call103 (cutN (T := []) (by simp)) ?_
  rintro v1 u1 l1 rfl
  refine G.call0 _ _ (by kernel_rfl) Tryz.call104 intValidE0 ?_
  rintro v2 u2 l2 rfl
  refine G.call0 _ _ (by kernel_rfl) Tryz.call104 intValidE0 ?_
  rintro v3 u3 l3 rfl
  exact G.ret (.bool false) (by kernel_rfl) ⟨rfl, rfl⟩
theorem partsE0 {u : PH} : Fn0 Tryz.prog 78 [.string (mkS [])] u fun v _ => v = .tuple #[.string (mkS []), .string (mkS []), .bool false] := by
  refine Fn0.of Tryz.func78 (by kernel_rfl) (by kernel_rfl) ?_
  refine G.call0 _ _ (by kernel_rfl) Tryz.call52 ratValidE0 ?_
  rintro v1 u1 l1 rfl
  exact G.ret (.tuple #[.string (mkS []), .string (mkS []), .bool false]) (by kernel_rfl) ⟨rfl, rfl⟩
theorem intSmallE0 {u : PH} : Fn0 Tryz.prog 79 [.string (mkS [])] u fun v _ => v = .tuple #[.int .i64 0, .bool false] := by
  refine Fn0.of Tryz.func79 (by kernel_rfl) (by kernel_rfl) ?_
  refine G.call0 _ _ (by kernel_rfl) Tryz.call104 intValidE0 ?_
  rintro v1 u1 l1 rfl
  exact G.ret (.tuple #[.int .i64 0, .bool false]) (by kernel_rfl) ⟨rfl, rfl⟩
theorem valueE0 {u : PH} {x : List UInt8 × Nat} (h1 : 1 ≤ x.2) (h3 : x.2 ≤ 3) : Fn0 Tryz.prog 42 [attV x, .string (mkS [])] u fun v _ => v = .bool true := by
  obtain ⟨s, k⟩ := x
  simp only at h1 h3
  refine Fn0.of Tryz.func42 (by kernel_rfl) (by kernel_rfl) ?_
  rcases (by omega : k = 1 ∨ k = 2 ∨ k = 3) with rfl | rfl | rfl
  · refine G.eqlT ((1 : Nat) : Int) 1 (by kernel_rfl) (by omega) ?_
    refine G.eqST [] [] (by kernel_rfl) rfl ?_
    exact G.ret (.bool true) (by kernel_rfl) ⟨rfl, rfl⟩
  · refine G.eqlF ((2 : Nat) : Int) 1 (by kernel_rfl) (by omega) ?_
    refine G.eqlT ((2 : Nat) : Int) 2 (by kernel_rfl) (by omega) ?_
    refine G.call0 _ _ (by kernel_rfl) Tryz.call78 partsE0 ?_
    rintro v1 u1 l1 rfl
    refine G.call0 _ _ (by kernel_rfl) Tryz.call79 intSmallE0 ?_
    rintro v2 u2 l2 rfl
    refine G.eqST [] [] (by kernel_rfl) rfl ?_
    exact G.ret (.bool true) (by kernel_rfl) ⟨rfl, rfl⟩
  · refine G.eqlF ((3 : Nat) : Int) 1 (by kernel_rfl) (by omega) ?_
    refine G.eqlF ((3 : Nat) : Int) 2 (by kernel_rfl) (by omega) ?_
    refine G.eqlT ((3 : Nat) : Int) 3 (by kernel_rfl) (by omega) ?_
    refine G.eqST [] [] (by kernel_rfl) rfl ?_
    exact G.ret (.bool true) (by kernel_rfl) ⟨rfl, rfl⟩
theorem itoa_ne_nil {z : Int} : Lib.itoa z ≠ [] := by
  by_cases h : z < 0
  · rw [itoa_neg h]; simp
  · rw [Lib.itoa, if_neg h]; exact dec_ne_nil _
theorem valueK0 {u : PH} {s : List UInt8} {z : Int} (h : z.natAbs ≤ 1000000000) : Fn0 Tryz.prog 42 [attV (s, 1), .string (mkS (Lib.itoa z))] u fun v _ => v = .bool true := by
  refine Fn0.of Tryz.func42 (by kernel_rfl) (by kernel_rfl) ?_
  refine G.eqlT ((1 : Nat) : Int) 1 (by kernel_rfl) (by omega) ?_
  refine G.eqSF (Lib.itoa z) [] (by kernel_rfl) itoa_ne_nil ?_
  refine G.call0 _ _ (by kernel_rfl) Tryz.call77 (bounded0 h) ?_
  rintro v1 u1 l1 rfl
  exact G.ret (.bool true) (by kernel_rfl) ⟨rfl, rfl⟩
theorem valueC0 {u : PH} {s t : List UInt8} (h : wordB t = true) : Fn0 Tryz.prog 42 [attV (s, 3), .string (mkS t)] u fun v _ => v = .bool true := by
  refine Fn0.of Tryz.func42 (by kernel_rfl) (by kernel_rfl) ?_
  refine G.eqlF ((3 : Nat) : Int) 1 (by kernel_rfl) (by omega) ?_
  refine G.eqlF ((3 : Nat) : Int) 2 (by kernel_rfl) (by omega) ?_
  refine G.eqlT ((3 : Nat) : Int) 3 (by kernel_rfl) (by omega) ?_
  refine G.eqSF t [] (by kernel_rfl) (fun e => by rw [e] at h; cases h) ?_
  refine G.call0 _ _ (by kernel_rfl) Tryz.call80 (word0 h) ?_
  rintro v1 u1 l1 rfl
  exact G.ret (.bool true) (by kernel_rfl) ⟨rfl, rfl⟩
theorem liftLabE0 {u : PH} {v : Value} {T : List (List UInt8 × Nat)} {R : List SRel} {F : List Feat} {lab : Int} {a : Nat} (h : SchP u v T R F lab) (ok : SchOK u T R F lab) {i : Int} (hk : attF F a = i) (hl : (a : Int) = lab) :
    Fn0 Tryz.prog 43 [v, .int .i64 (a : Int), .string (mkS [])] u fun v' u' => MomP u' v' (CF.num ((0 : Int) : Rat)) 0 := by
  obtain ⟨pa, ca, pb, cb, pe, ce, rfl, hT, hR, hF⟩ := h
  have hfl := ok.f2
  refine Fn0.of Tryz.func43 (by kernel_rfl) (by kernel_rfl) ?_
  refine G.pastI ?_
  refine G.pub 1 3 [.int .i64 (a : Int)] (by kernel_rfl) (by kernel_rfl) ?_
  intro e hu hm
  refine G.callK _ _ (by kernel_rfl) Tryz.call81 (fIndex0 (cap := .pointer (some ⟨e, 0, none⟩)) (fun f : Feat => f.1 == a) hF (by omega) Tryz.call82 fun f _ u' _ => isAtt0 (elP_int _ _ _ _)) ?_
  rintro v1 u1 l1 rfl
  unfold attF at hk
  rw [hk]
  refine G.loadM none e 0 (.int .i64 (a : Int)) (by kernel_rfl) (by kernel_rfl) (elP_int _ _ _ _) ?_
  refine G.eqlT (a : Int) lab (by kernel_rfl) hl ?_
  refine G.eqST [] [] (by kernel_rfl) rfl ?_
  refine G.call0 _ _ (by kernel_rfl) Tryz.call83 (wholeP0 (n := 0) (by omega) (by omega)) ?_
  intro v3 u3 l3 r3
  obtain ⟨b, x, n, c, b', x', n', c', g1, g2, rfl⟩ := momP_opn r3
  refine G.drop PH.mt (by kernel_rfl) (PH.mt_le _) ?_
  exact G.ret (.agg #[.bool b, .slice x n c, .bool b', .slice x' n' c', .map (some g1), .map (some g2)]) (by kernel_rfl) ⟨rfl, r3⟩
theorem liftNone0 {u : PH} {v : Value} {T : List (List UInt8 × Nat)} {R : List SRel} {F : List Feat} {lab : Int} {a : Nat} (h : SchP u v T R F lab) (ok : SchOK u T R F lab) {s : List UInt8} (hk : attF F a = -1) (hl : (a : Int) ≠ lab) :
    Fn0 Tryz.prog 43 [v, .int .i64 (a : Int), .string (mkS s)] u fun v' u' => MomP u' v' (CF.num ((1 : Int) : Rat)) 0 := by
  obtain ⟨pa, ca, pb, cb, pe, ce, rfl, hT, hR, hF⟩ := h
  have hfl := ok.f2
  refine Fn0.of Tryz.func43 (by kernel_rfl) (by kernel_rfl) ?_
  refine G.pastI ?_
  refine G.pub 1 3 [.int .i64 (a : Int)] (by kernel_rfl) (by kernel_rfl) ?_
  intro e hu hm
  refine G.callK _ _ (by kernel_rfl) Tryz.call81 (fIndex0 (cap := .pointer (some ⟨e, 0, none⟩)) (fun f : Feat => f.1 == a) hF (by omega) Tryz.call82 fun f _ u' _ => isAtt0 (elP_int _ _ _ _)) ?_
  rintro v1 u1 l1 rfl
  unfold attF at hk
  rw [hk]
  refine G.loadM none e 0 (.int .i64 (a : Int)) (by kernel_rfl) (by kernel_rfl) (elP_int _ _ _ _) ?_
  refine G.eqlF (a : Int) lab (by kernel_rfl) hl ?_
  refine G.loadM none e 0 (.int .i64 (a : Int)) (by kernel_rfl) (by kernel_rfl) (elP_int _ _ _ _) ?_
  refine G.eqlF (a : Int) lab (by kernel_rfl) hl ?_
  refine G.lssT (-1) 0 (by kernel_rfl) (by omega) ?_
  refine G.call0 _ _ (by kernel_rfl) Tryz.call83 (wholeP0 (n := 1) (by omega) (by omega)) ?_
  intro v3 u3 l3 r3
  obtain ⟨b, x, n, c, b', x', n', c', g1, g2, rfl⟩ := momP_opn r3
  refine G.drop PH.mt (by kernel_rfl) (PH.mt_le _) ?_
  exact G.ret (.agg #[.bool b, .slice x n c, .bool b', .slice x' n' c', .map (some g1), .map (some g2)]) (by kernel_rfl) ⟨rfl, r3⟩
theorem liftHot0 {u : PH} {v : Value} {T : List (List UInt8 × Nat)} {R : List SRel} {F : List Feat} {lab : Int} {a : Nat} (h : SchP u v T R F lab) (ok : SchOK u T R F lab) {s : List UInt8} {k mi : Nat} (hk : attF F a = (k : Int)) (hmi : F[k]? = some (a, 2, mi)) (hl : (a : Int) ≠ lab) :
    Fn0 Tryz.prog 43 [v, .int .i64 (a : Int), .string (mkS s)] u fun v' u' => MomP u' v' (CF.one1 ((k : Int), s) ((1 : Int) : Rat)) 1 := by
  obtain ⟨pa, ca, pb, cb, pe, ce, rfl, hT, hR, hF⟩ := h
  have hfl := ok.f2
  refine Fn0.of Tryz.func43 (by kernel_rfl) (by kernel_rfl) ?_
  refine G.pastI ?_
  refine G.pub 1 3 [.int .i64 (a : Int)] (by kernel_rfl) (by kernel_rfl) ?_
  intro e hu hm
  refine G.callK _ _ (by kernel_rfl) Tryz.call81 (fIndex0 (cap := .pointer (some ⟨e, 0, none⟩)) (fun f : Feat => f.1 == a) hF (by omega) Tryz.call82 fun f _ u' _ => isAtt0 (elP_int _ _ _ _)) ?_
  rintro v1 u1 l1 rfl
  unfold attF at hk
  rw [hk]
  refine G.loadM none e 0 (.int .i64 (a : Int)) (by kernel_rfl) (by kernel_rfl) (elP_int _ _ _ _) ?_
  refine G.eqlF (a : Int) lab (by kernel_rfl) hl ?_
  refine G.loadM none e 0 (.int .i64 (a : Int)) (by kernel_rfl) (by kernel_rfl) (elP_int _ _ _ _) ?_
  refine G.eqlF (a : Int) lab (by kernel_rfl) hl ?_
  refine G.lssF (k : Int) 0 (by kernel_rfl) (by omega) ?_
  obtain ⟨bb, ob, rfl, eb⟩ := ListP.at' (hF.mono l1) (j := k) (e := featV (a, 2, mi)) (by simp [hmi])
  obtain ⟨hkl, _⟩ := List.getElem?_eq_some_iff.1 hmi
  refine G.addr bb ob F.length ce k 3 (by kernel_rfl) hkl ?_
  refine G.loadU (some 3) bb (ob + k * 3) (.agg #[.int .i64 (a : Int), .int .i64 ((2 : Nat) : Int), .int .i64 (mi : Int)]) (by kernel_rfl) (by kernel_rfl) eb ?_
  refine G.eqlT ((2 : Nat) : Int) 2 (by kernel_rfl) (by omega) ?_
  refine G.call0 _ _ (by kernel_rfl) Tryz.call85 (fracOf0 (z := 1) (by omega) (by omega)) ?_
  intro v2 u2 l2 r2
  refine G.call0 _ _ (by kernel_rfl) Tryz.call84 (oneP0 (p := ((k : Int), s)) r2 (by decide +kernel) (by decide +kernel)) ?_
  intro v3 u3 l3 r3
  obtain ⟨b, x, n, c, b', x', n', c', g1, g2, rfl⟩ := momP_opn r3
  refine G.drop PH.mt (by kernel_rfl) (PH.mt_le _) ?_
  exact G.ret (.agg #[.bool b, .slice x n c, .bool b', .slice x' n' c', .map (some g1), .map (some g2)]) (by kernel_rfl) ⟨rfl, r3⟩
theorem liftDrop0 {u : PH} {v : Value} {T : List (List UInt8 × Nat)} {R : List SRel} {F : List Feat} {lab : Int} {a : Nat} (h : SchP u v T R F lab) (ok : SchOK u T R F lab) {k : Nat} (hk : attF F a = (k : Int)) (hmi : F[k]? = some (a, 1, 1)) (hl : (a : Int) ≠ lab) :
    Fn0 Tryz.prog 43 [v, .int .i64 (a : Int), .string (mkS [])] u fun v' u' => MomP u' v' (CF.num ((0 : Int) : Rat)) 0 := by
  obtain ⟨pa, ca, pb, cb, pe, ce, rfl, hT, hR, hF⟩ := h
  have hfl := ok.f2
  refine Fn0.of Tryz.func43 (by kernel_rfl) (by kernel_rfl) ?_
  refine G.pastI ?_
  refine G.pub 1 3 [.int .i64 (a : Int)] (by kernel_rfl) (by kernel_rfl) ?_
  intro e hu hm
  refine G.callK _ _ (by kernel_rfl) Tryz.call81 (fIndex0 (cap := .pointer (some ⟨e, 0, none⟩)) (fun f : Feat => f.1 == a) hF (by omega) Tryz.call82 fun f _ u' _ => isAtt0 (elP_int _ _ _ _)) ?_
  rintro v1 u1 l1 rfl
  unfold attF at hk
  rw [hk]
  refine G.loadM none e 0 (.int .i64 (a : Int)) (by kernel_rfl) (by kernel_rfl) (elP_int _ _ _ _) ?_
  refine G.eqlF (a : Int) lab (by kernel_rfl) hl ?_
  refine G.loadM none e 0 (.int .i64 (a : Int)) (by kernel_rfl) (by kernel_rfl) (elP_int _ _ _ _) ?_
  refine G.eqlF (a : Int) lab (by kernel_rfl) hl ?_
  refine G.lssF (k : Int) 0 (by kernel_rfl) (by omega) ?_
  obtain ⟨bb, ob, rfl, eb⟩ := ListP.at' (hF.mono l1) (j := k) (e := featV (a, 1, 1)) (by simp [hmi])
  obtain ⟨hkl, _⟩ := List.getElem?_eq_some_iff.1 hmi
  refine G.addr bb ob F.length ce k 3 (by kernel_rfl) hkl ?_
  refine G.loadU (some 3) bb (ob + k * 3) (.agg #[.int .i64 (a : Int), .int .i64 ((1 : Nat) : Int), .int .i64 ((1 : Nat) : Int)]) (by kernel_rfl) (by kernel_rfl) eb ?_
  refine G.eqlF ((1 : Nat) : Int) 2 (by kernel_rfl) (by omega) ?_
  refine G.eqST [] [] (by kernel_rfl) rfl ?_
  refine G.eqlT ((1 : Nat) : Int) 1 (by kernel_rfl) (by omega) ?_
  refine G.call0 _ _ (by kernel_rfl) Tryz.call83 (wholeP0 (n := 0) (by omega) (by omega)) ?_
  intro v3 u3 l3 r3
  obtain ⟨b, x, n, c, b', x', n', c', g1, g2, rfl⟩ := momP_opn r3
  refine G.drop PH.mt (by kernel_rfl) (PH.mt_le _) ?_
  exact G.ret (.agg #[.bool b, .slice x n c, .bool b', .slice x' n' c', .map (some g1), .map (some g2)]) (by kernel_rfl) ⟨rfl, r3⟩
theorem liftKeep0 {u : PH} {v : Value} {T : List (List UInt8 × Nat)} {R : List SRel} {F : List Feat} {lab : Int} {a : Nat} (h : SchP u v T R F lab) (ok : SchOK u T R F lab) {k : Nat} (hk : attF F a = (k : Int)) (hmi : F[k]? = some (a, 1, 0)) (hl : (a : Int) ≠ lab) :
    Fn0 Tryz.prog 43 [v, .int .i64 (a : Int), .string (mkS [])] u fun v' u' => MomP u' v' (CF.num ((1 : Int) : Rat)) 0 := by
  obtain ⟨pa, ca, pb, cb, pe, ce, rfl, hT, hR, hF⟩ := h
  have hfl := ok.f2
  refine Fn0.of Tryz.func43 (by kernel_rfl) (by kernel_rfl) ?_
  refine G.pastI ?_
  refine G.pub 1 3 [.int .i64 (a : Int)] (by kernel_rfl) (by kernel_rfl) ?_
  intro e hu hm
  refine G.callK _ _ (by kernel_rfl) Tryz.call81 (fIndex0 (cap := .pointer (some ⟨e, 0, none⟩)) (fun f : Feat => f.1 == a) hF (by omega) Tryz.call82 fun f _ u' _ => isAtt0 (elP_int _ _ _ _)) ?_
  rintro v1 u1 l1 rfl
  unfold attF at hk
  rw [hk]
  refine G.loadM none e 0 (.int .i64 (a : Int)) (by kernel_rfl) (by kernel_rfl) (elP_int _ _ _ _) ?_
  refine G.eqlF (a : Int) lab (by kernel_rfl) hl ?_
  refine G.loadM none e 0 (.int .i64 (a : Int)) (by kernel_rfl) (by kernel_rfl) (elP_int _ _ _ _) ?_
  refine G.eqlF (a : Int) lab (by kernel_rfl) hl ?_
  refine G.lssF (k : Int) 0 (by kernel_rfl) (by omega) ?_
  obtain ⟨bb, ob, rfl, eb⟩ := ListP.at' (hF.mono l1) (j := k) (e := featV (a, 1, 0)) (by simp [hmi])
  obtain ⟨hkl, _⟩ := List.getElem?_eq_some_iff.1 hmi
  refine G.addr bb ob F.length ce k 3 (by kernel_rfl) hkl ?_
  refine G.loadU (some 3) bb (ob + k * 3) (.agg #[.int .i64 (a : Int), .int .i64 ((1 : Nat) : Int), .int .i64 ((0 : Nat) : Int)]) (by kernel_rfl) (by kernel_rfl) eb ?_
  refine G.eqlF ((1 : Nat) : Int) 2 (by kernel_rfl) (by omega) ?_
  refine G.eqST [] [] (by kernel_rfl) rfl ?_
  refine G.eqlF ((0 : Nat) : Int) 1 (by kernel_rfl) (by omega) ?_
  refine G.eqST [] [] (by kernel_rfl) rfl ?_
  refine G.call0 _ _ (by kernel_rfl) Tryz.call83 (wholeP0 (n := 1) (by omega) (by omega)) ?_
  intro v3 u3 l3 r3
  obtain ⟨b, x, n, c, b', x', n', c', g1, g2, rfl⟩ := momP_opn r3
  refine G.drop PH.mt (by kernel_rfl) (PH.mt_le _) ?_
  exact G.ret (.agg #[.bool b, .slice x n c, .bool b', .slice x' n' c', .map (some g1), .map (some g2)]) (by kernel_rfl) ⟨rfl, r3⟩
end Go.Proofs.YtikfmknnbjocmaaGreatDoor
end
section
set_option linter.unusedSectionVars false
set_option linter.unusedVariables false
namespace Go.Proofs.YtikfmknnbjocmaaGreatDoor
open Go.RowKit Go.MapKept
section rules
variable {P : Program} [Mixed P] {fn : Func} {Post : Spec} {st : List KI × S} {u m : PH}
theorem G.convBU (e : TypeId) (l : List UInt8) (b n c : Nat) (h : stopV P (adv P st) = .conv (some (.slice e)) (some .string) (.slice (some ⟨b, 0, none⟩) n c)) (he : P.underlying e = some (.int .u8)) (hn : n = l.length)
    (ha : ElsP u b 0 1 (bytesV l)) (k : G P fn Post (nx (adv P st) (.string (mkS l))) u m) : G P fn Post st u m := by
  refine G.ask h (by simp) (fun env o hview w hp => ?_) k
  obtain ⟨s, d, X, e1, e2, e3, e4⟩ := view_conv hview
  obtain ⟨dst, opp, type, pos, after, guard⟩ := o
  simp only at e1; subst e1
  have hm := (hp rfl).1
  subst hn
  have := run_convert_bytes_back (P := P) w s d e ⟨b, 0, none⟩ c l e3 he e4 (fun j hj => by
    have h1 := ha j (.int .u8 (l[j].toNat : Int)) (by simp [bytesV, hj])
    have h2 := (h1 0 (.int .u8 (l[j].toNat : Int)) (by simp [Value.cells])).cell hm
    rw [addr_add]; simpa using h2)
  simp [execOp, e2, this]
end rules
def letC (i : Nat) : UInt8 := UInt8.ofNat (97 + i)
theorem letC_nat {i : Nat} (h : i < 26) : (letC i).toNat = 97 + i := by
  unfold letC; rw [UInt8.toNat_ofNat']; omega
theorem letter0 {u : PH} {p : List UInt8} {i : Nat} (hi : i < 26) (hp : p.length ≤ 1000) : Fn0 Tryz.prog 38 [.string (mkS p), .int .i64 (i : Int)] u fun v _ => v = .string (mkS (p ++ [letC i])) := by
  refine Fn0.of Tryz.func38 (by kernel_rfl) (by kernel_rfl) ?_
  refine G.remZ (i : Int) 26 (i : Int) (by kernel_rfl) (by omega) (by omega) (by rw [Int.tmod_eq_emod_of_nonneg (by omega)]; omega) ?_
  refine G.add 97 (i : Int) ((97 + i : Nat) : Int) (by kernel_rfl) (by omega) (by omega) (by omega) ?_
  refine G.convI .i64 .u8 .i64 ((97 + i : Nat) : Int) ((97 + i : Nat) : Int) (by kernel_rfl) ?_ ?_
  · simp only [IntKind.wrap, IntKind.signed, IntKind.bits]; simp; omega
  have hb : [Value.int .u8 ((97 + i : Nat) : Int)] = bytesV [letC i] := by unfold bytesV; rw [List.map_cons, letC_nat hi]; rfl
  refine G.buildU 5 1 1 (.int .u8 0) [.int .u8 ((97 + i : Nat) : Int)] (by kernel_rfl) (by rw [hb]; exact bytesV_ok _) rfl (by omega) (by simp) (by simp) ?_
  intro g u1 l1 e1
  rw [hb] at e1
  refine G.convBU 5 [letC i] g 1 1 (by kernel_rfl) (by kernel_rfl) rfl e1 ?_
  refine G.addS p [letC i] (by kernel_rfl) (by simp; omega) ?_
  exact G.ret _ (by kernel_rfl) ⟨rfl, rfl⟩
def ValOK (k : Nat) (s : List UInt8) : Prop := s = [] ∨ (k = 3 ∧ wordB s = true) ∨ (k = 1 ∧ ∃ z : Int, z.natAbs ≤ 1000000000 ∧ s = Lib.itoa z) ∨ (k = 2 ∧ ∃ q, SmR q ∧ s = ratT q)
def redB : List UInt8 := [114, 101, 100]
def greenB : List UInt8 := [103, 114, 101, 101, 110]
def blueB : List UInt8 := [98, 108, 117, 101]
theorem valOK_num {q : Rat} {s : List UInt8} (h : ratT q = s) (hq : SmR q) : ValOK 2 s := .inr (.inr (.inr ⟨rfl, q, hq, h.symm⟩))
theorem valOK_key {z : Int} {s : List UInt8} (h : Lib.itoa z = s) (hz : z.natAbs ≤ 1000000000) : ValOK 1 s := .inr (.inr (.inl ⟨rfl, z, hz, h.symm⟩))
set_option maxHeartbeats 1000000 in
theorem srcValue0 {u : PH} {s : Src} {ts : List Int} {k : Nat} {x : List UInt8 × Nat} (h : SrcOK u s ts) (hk : k ≤ s.n) (h1 : 1 ≤ x.2) (h3 : x.2 ≤ 3) :
    Contract Tryz.prog 40 [s.ptr, attV x] u (s.M k) fun v _ m' => ∃ (t : List UInt8) (k' : Nat), v = .string (mkS t) ∧ ValOK x.2 t ∧ k' ≤ s.n ∧ m' = s.M k' := by
  obtain ⟨nm, kd⟩ := x
  simp only at h1 h3 ⊢
  refine Contract.of Tryz.func40 (by kernel_rfl) (by kernel_rfl) ?_
  refine G.callA _ _ (by kernel_rfl) (by kernel_rfl) Tryz.call37 (mt_or _).symm (apart_mt _) (srcN0 (n := 9) h hk (by omega) (by omega)) ?_
  rintro v1 u1 m1 l1 ⟨r, k1, rfl, hr, hk1, rfl⟩ _
  rw [mt_or]
  by_cases h8 : r = 8
  · refine G.eqlT (r : Int) 8 (by kernel_rfl) (by omega) ?_
    exact G.ret (.string (mkS [])) (by kernel_rfl) ⟨[], k1, rfl, .inl rfl, hk1, rfl⟩
  refine G.eqlF (r : Int) 8 (by kernel_rfl) (by omega) ?_
  by_cases hk3 : kd = 3
  · subst hk3
    refine G.eqlT ((3 : Nat) : Int) 3 (by kernel_rfl) (by omega) ?_
    refine G.buildU 9 1 16 (.string (mkS [])) [.string (mkS redB), .string (mkS greenB), .string (mkS blueB)] (by kernel_rfl) (nmV_ok [redB, greenB, blueB]) rfl (by omega) (by simp) (by simp) ?_
    intro g u2 l2 e2
    obtain ⟨i, hi⟩ : ∃ i, i = r % 3 := ⟨_, rfl⟩
    have hi3 : i < 3 := by omega
    refine G.remZ (r : Int) 3 (i : Int) (by kernel_rfl) (by omega) (by omega) (by rw [Int.tmod_eq_emod_of_nonneg (by omega)]; omega) ?_
    refine G.addr g 0 3 3 i 1 (by kernel_rfl) hi3 ?_
    obtain ⟨t, ht, hw⟩ : ∃ t, ElP u2 g (0 + i * 1) (.string (mkS t)) ∧ wordB t = true := by
      rcases (by omega : i = 0 ∨ i = 1 ∨ i = 2) with h | h | h
      · rw [h]; exact ⟨redB, e2 0 _ rfl, by decide +kernel⟩
      · rw [h]; exact ⟨greenB, e2 1 _ rfl, by decide +kernel⟩
      · rw [h]; exact ⟨blueB, e2 2 _ rfl, by decide +kernel⟩
    refine G.loadU none g (0 + i * 1) (.string (mkS t)) (by kernel_rfl) (by kernel_rfl) ht ?_
    exact G.ret (.string (mkS t)) (by kernel_rfl) ⟨t, k1, rfl, .inr (.inl ⟨rfl, hw⟩), hk1, rfl⟩
  refine G.eqlF (kd : Int) 3 (by kernel_rfl) (by omega) ?_
  by_cases hk2 : kd = 1
  · subst hk2
    refine G.eqlT ((1 : Nat) : Int) 1 (by kernel_rfl) (by omega) ?_
    refine G.buildU 9 1 16 (.string (mkS [])) [.string (mkS [49]), .string (mkS [50]), .string (mkS [49, 48])] (by kernel_rfl) (nmV_ok [[49], [50], [49, 48]]) rfl (by omega) (by simp) (by simp) ?_
    intro g u2 l2 e2
    obtain ⟨i, hi⟩ : ∃ i, i = r % 3 := ⟨_, rfl⟩
    have hi3 : i < 3 := by omega
    refine G.remZ (r : Int) 3 (i : Int) (by kernel_rfl) (by omega) (by omega) (by rw [Int.tmod_eq_emod_of_nonneg (by omega)]; omega) ?_
    refine G.addr g 0 3 3 i 1 (by kernel_rfl) hi3 ?_
    obtain ⟨t, ht, hw⟩ : ∃ t, ElP u2 g (0 + i * 1) (.string (mkS t)) ∧ ValOK 1 t := by
      rcases (by omega : i = 0 ∨ i = 1 ∨ i = 2) with h | h | h
      · rw [h]; exact ⟨[49], e2 0 _ rfl, valOK_key (z := 1) (by decide +kernel) (by decide)⟩
      · rw [h]; exact ⟨[50], e2 1 _ rfl, valOK_key (z := 2) (by decide +kernel) (by decide)⟩
      · rw [h]; exact ⟨[49, 48], e2 2 _ rfl, valOK_key (z := 10) (by decide +kernel) (by decide)⟩
    refine G.loadU none g (0 + i * 1) (.string (mkS t)) (by kernel_rfl) (by kernel_rfl) ht ?_
    exact G.ret (.string (mkS t)) (by kernel_rfl) ⟨t, k1, rfl, hw, hk1, rfl⟩
  refine G.eqlF (kd : Int) 1 (by kernel_rfl) (by omega) ?_
  obtain rfl : kd = 2 := by omega
  refine G.buildU 9 1 16 (.string (mkS [])) [.string (mkS [48]), .string (mkS [49]), .string (mkS [45, 50]), .string (mkS [49, 47, 50]), .string (mkS [51]), .string (mkS [53, 47, 51]), .string (mkS [49]), .string (mkS [50])] (by kernel_rfl) (nmV_ok [[48], [49], [45, 50], [49, 47, 50], [51], [53, 47, 51], [49], [50]]) rfl (by omega) (by simp) (by simp) ?_
  intro g u2 l2 e2
  refine G.addr g 0 8 8 r 1 (by kernel_rfl) (by omega) ?_
  obtain ⟨t, ht, hw⟩ : ∃ t, ElP u2 g (0 + r * 1) (.string (mkS t)) ∧ ValOK 2 t := by
    rcases (by omega : r = 0 ∨ r = 1 ∨ r = 2 ∨ r = 3 ∨ r = 4 ∨ r = 5 ∨ r = 6 ∨ r = 7) with h | h | h | h | h | h | h | h
    · rw [h]; exact ⟨_, e2 0 _ rfl, valOK_num (q := 0) (by decide +kernel) ⟨by decide +kernel, by decide +kernel⟩⟩
    · rw [h]; exact ⟨_, e2 1 _ rfl, valOK_num (q := 1) (by decide +kernel) ⟨by decide +kernel, by decide +kernel⟩⟩
    · rw [h]; exact ⟨_, e2 2 _ rfl, valOK_num (q := -2) (by decide +kernel) ⟨by decide +kernel, by decide +kernel⟩⟩
    · rw [h]; exact ⟨_, e2 3 _ rfl, valOK_num (q := 1 / 2) (by decide +kernel) ⟨by decide +kernel, by decide +kernel⟩⟩
    · rw [h]; exact ⟨_, e2 4 _ rfl, valOK_num (q := 3) (by decide +kernel) ⟨by decide +kernel, by decide +kernel⟩⟩
    · rw [h]; exact ⟨_, e2 5 _ rfl, valOK_num (q := 5 / 3) (by decide +kernel) ⟨by decide +kernel, by decide +kernel⟩⟩
    · rw [h]; exact ⟨_, e2 6 _ rfl, valOK_num (q := 1) (by decide +kernel) ⟨by decide +kernel, by decide +kernel⟩⟩
    · rw [h]; exact ⟨_, e2 7 _ rfl, valOK_num (q := 2) (by decide +kernel) ⟨by decide +kernel, by decide +kernel⟩⟩
  refine G.loadU none g (0 + r * 1) (.string (mkS t)) (by kernel_rfl) (by kernel_rfl) ht ?_
  exact G.ret (.string (mkS t)) (by kernel_rfl) ⟨t, k1, rfl, hw, hk1, rfl⟩
end Go.Proofs.YtikfmknnbjocmaaGreatDoor
end
section
set_option linter.unusedSectionVars false
set_option linter.unusedVariables false
namespace Go.Proofs.YtikfmknnbjocmaaGreatDoor
open Go.RowKit Go.MapKept
set_option maxHeartbeats 1000000 in
theorem srcTuple0 {u : PH} {s : Src} {ts : List Int} {k : Nat} {v w x y : Value} {T : List (List UInt8 × Nat)} (h : SrcOK u s ts) (hk : k ≤ s.n) (hT : ListP u v 2 (T.map attV)) (hl : T.length ≤ 1000) (hkd : ∀ a ∈ T, 1 ≤ a.2 ∧ a.2 ≤ 3) (hw : ∃ a n c, w = .slice a n c) (hx : ∃ a n c, x = .slice a n c) (hy : ∃ z : Int, y = .int .i64 z) :
    Contract Tryz.prog 11 [s.ptr, .agg #[v, w, x, y]] u (s.M k) fun r u' m' => ∃ (ss : List (List UInt8)) (k' : Nat), ListP u' r 1 (ss.map nmV) ∧ ss.length = T.length ∧ (∀ (i : Nat) (x : List UInt8 × Nat) (t : List UInt8), T[i]? = some x → ss[i]? = some t → ValOK x.2 t) ∧ k' ≤ s.n ∧ m' = s.M k' := by
  obtain ⟨a, c, rfl⟩ := hT.opn
  obtain ⟨wa, wn, wc, rfl⟩ := hw
  obtain ⟨xa, xn, xc, rfl⟩ := hx
  obtain ⟨z, rfl⟩ := hy
  rw [List.length_map] at hT ⊢
  refine Contract.of Tryz.func11 (by kernel_rfl) (by kernel_rfl) ?_
  refine G.loop (ι := Nat × Nat × List (List UInt8) × (Option Addr × Nat)) (fun i => [(0, .v s.ptr), (5, .v (.slice i.2.2.2.1 i.2.2.1.length i.2.2.2.2)), (9, .v (.slice a T.length c)), (10, .v (.int .i64 (T.length : Int))), (11, .v (.int .i64 (i.1 : Int)))]) (fun _ => [])
    (fun i u' m' => i.1 ≤ T.length ∧ i.2.1 ≤ s.n ∧ i.2.2.1.length = i.1 ∧ (∀ (j : Nat) (x : List UInt8 × Nat) (t : List UInt8), T[j]? = some x → i.2.2.1[j]? = some t → ValOK x.2 t) ∧ Bag m' [s.arr i.2.1, nArr i.2.2.2.1 i.2.2.2.2 i.2.2.1])
    (fun i => T.length - i.1) (0, k, [], (none, 0)) (by kernel_rfl) (fun _ => by kernel_rfl) ⟨by kernel_rfl, by kernel_rfl, by kernel_rfl⟩
    ⟨Nat.zero_le _, hk, rfl, fun j x t _ ht => by simp at ht, s.bag0 k ⟨PH.mt, ArrAt.nil _ _ _, trivial⟩⟩ ?_
  rintro J ⟨i, k1, ss, ⟨na, nc⟩⟩ hJ u1 m1 l1 ⟨hi, hk1, hsl, hss, hbag⟩
  simp only at hi hk1 hsl hss hbag hJ
  obtain ⟨m0, hsrc, hL⟩ := hbag
  obtain ⟨rfl, hg0⟩ := Src.split hsrc
  by_cases hlt : i < T.length
  · refine G.lssT (i : Int) (T.length : Int) (by kernel_rfl) (by omega) ?_
    have hTi : T[i]? = some T[i] := List.getElem?_eq_getElem hlt
    obtain ⟨hk1', hk3'⟩ := hkd T[i] (List.getElem_mem hlt)
    obtain ⟨ba, oa, rfl, ea⟩ := ListP.at' (hT.mono l1) (j := i) (e := attV T[i]) (by simp [hTi])
    generalize T[i] = q at ea hTi hk1' hk3'
    refine G.addr ba oa T.length c i 2 (by kernel_rfl) hlt ?_
    refine G.loadU (some 2) ba (oa + i * 2) (.agg #[.string (mkS q.1), .int .i64 (q.2 : Int)]) (by kernel_rfl) (by kernel_rfl) ea ?_
    refine G.callA _ _ (by kernel_rfl) (by kernel_rfl) Tryz.call40 rfl (Src.apart hg0) (srcValue0 (x := q) (h.mono l1) hk1 hk1' hk3') ?_
    rintro v2 u2 m2 l2 ⟨t, k2, rfl, hv, hk2, rfl⟩ _
    refine G.buildU 9 1 16 (.string (mkS [])) [.string (mkS t)] (by kernel_rfl) (nmV_ok [t]) rfl (by omega) (by simp) (by simp) ?_
    intro g3 u3 l3 e3
    have hbag2 : Bag (m0.or (s.M k2)) [s.arr k2, nArr na nc ss] := ⟨m0, Src.at hg0, hL⟩
    obtain ⟨mm, hx0, hput⟩ := hbag2.focus 1 rfl
    rw [nArr_at] at hx0
    refine G.append 9 1 16 (.string (mkS [])) mm (ss.map nmV) [.string (mkS t)] (.slice na ss.length nc) g3 0 1 1 (by kernel_rfl) rfl rfl (by omega) hx0 e3 (nmV_ok [t]) rfl (by omega) (by simp; omega) (by simp; omega) ?_
    intro v4 m4 hx4
    rw [show ss.map nmV ++ [.string (mkS t)] = (ss ++ [t]).map nmV by rw [List.map_append]; rfl] at hx4
    obtain ⟨a4, c4, rfl⟩ := hx4.shape
    rw [List.length_map] at hx4 ⊢
    have hbag3 := hput (nArr a4 c4 (ss ++ [t])) m4 hx4
    refine G.add (i : Int) 1 ((i + 1 : Nat) : Int) (by kernel_rfl) (by omega) (by omega) (by omega) ?_
    refine G.back (by kernel_rfl) (hJ (i + 1, k2, ss ++ [t], (a4, c4)) _ _ _ ⟨by kernel_rfl, by kernel_rfl, by kernel_rfl⟩ ((l1.trans l2).trans l3) ⟨by dsimp only; omega, hk2, by dsimp only; simp [hsl], ?_, hbag3⟩ (by dsimp only; omega))
    intro j x' t' hx' ht'
    dsimp only at ht'
    rcases Nat.lt_or_ge j ss.length with hj | hj
    · rw [List.getElem?_append_left hj] at ht'
      exact hss j x' t' hx' ht'
    · rw [List.getElem?_append_right hj] at ht'
      have hj0 : j - ss.length = 0 := by
        obtain ⟨h', _⟩ := List.getElem?_eq_some_iff.1 ht'
        simp at h'; omega
      rw [hj0] at ht'
      obtain rfl : j = i := by omega
      rw [hTi] at hx'
      cases hx'
      simp at ht'
      subst ht'
      exact hv
  · obtain rfl : i = T.length := by omega
    refine G.lssF (T.length : Int) (T.length : Int) (by kernel_rfl) (by omega) ?_
    refine G.giveP (ma := m0) (sm := s.M k1) (by kernel_rfl) rfl (Src.apart hg0) (s.h0 k k1) ?_
    intro u2 l2 hm
    exact G.ret (.slice na ss.length nc) (by kernel_rfl) ⟨ss, k1, hL.list hm 0 rfl, hsl, hss, hk1, rfl⟩
end Go.Proofs.YtikfmknnbjocmaaGreatDoor
end
section
set_option linter.unusedSectionVars false
set_option linter.unusedVariables false
namespace Go.Proofs.YtikfmknnbjocmaaGreatDoor
open Go.RowKit Go.MapKept
structure CF.One (F : CF) : Prop where
  c : F.c = 1
  t : ∀ k, F.t k = if 0 < cmpP k.1 k.2 then 0 else F.s k.1 * F.s k.2
theorem CF.One.num : (CF.num 1).One := ⟨rfl, fun k => by
  show (0 : Rat) = if 0 < cmpP k.1 k.2 then 0 else (0 : Rat) * 0
  split
  · rfl
  · grind⟩
theorem one1_s (p : Par) (q : Rat) (k : Par) : (CF.one1 p q).s k = if k = p then q else 0 := rfl
theorem CF.One.one1 (p : Par) (q : Rat) : (CF.one1 p q).One := ⟨rfl, fun k => by
  show (if k = (p, p) then q * q else 0) = if 0 < cmpP k.1 k.2 then 0 else (if k.1 = p then q else 0) * (if k.2 = p then q else 0)
  obtain ⟨x, y⟩ := k
  by_cases h : (x, y) = (p, p)
  · obtain ⟨e1, e2⟩ := Prod.mk.inj h
    subst e2
    rw [e1]
    have := ordP.refl y
    rw [if_pos rfl, if_neg (by simp only; omega)]
    simp
  · rw [if_neg h]
    split
    · rfl
    · by_cases h1 : x = p
      · have h2 : y ≠ p := fun e => h (by rw [h1, e])
        simp only [h2, if_false]; grind
      · simp only [h1, if_false]; grind⟩
theorem CF.One.mul {F G : CF} (hF : F.One) (hG : G.One) : (F.mul G).One ∧ ∀ p, (F.mul G).s p = F.s p + G.s p := by
  have hs : ∀ p, (F.mul G).s p = F.s p + G.s p := fun p => by
    show G.s p * F.c + F.s p * G.c = _
    rw [hF.c, hG.c]; grind
  refine ⟨⟨?_, fun k => ?_⟩, hs⟩
  · show F.c * G.c = 1
    rw [hF.c, hG.c]; decide +kernel
  · rw [hs, hs]
    show G.t k * F.c + F.t k * G.c + crossP F G k = _
    rw [hF.c, hG.c, hF.t, hG.t]
    unfold crossP
    split
    · grind
    · split
      · rename_i he
        rw [← he]; grind
      · grind
abbrev LF : Type := Option (Option (Par × Rat))
def LF.cf : LF → CF
  | none => CF.num 0
  | some none => CF.num 1
  | some (some x) => CF.one1 x.1 x.2
def prdL (C : CF) (L : List LF) : CF := L.foldl (fun c y => c.mul y.cf) C
theorem prdL_snoc (C : CF) (L : List LF) (x : LF) : prdL C (L ++ [x]) = (prdL C L).mul x.cf := by unfold prdL; rw [List.foldl_append]; rfl
theorem num0_mul (F : CF) : (CF.num 0).mul F = CF.num 0 := by
  rw [CF.mul_comm]; exact CF.mul_zero F
theorem prdL_num0 : ∀ L, prdL (CF.num 0) L = CF.num 0
  | [] => rfl
  | x :: L => by
    unfold prdL
    rw [List.foldl_cons, num0_mul]
    exact prdL_num0 L
theorem prdL_none {C : CF} {L : List LF} (h : none ∈ L) : prdL C L = CF.num 0 := by
  obtain ⟨A, B, rfl⟩ := List.append_of_mem h
  unfold prdL
  rw [List.foldl_append, List.foldl_cons]
  have : (List.foldl (fun c (y : LF) => c.mul (LF.cf y)) C A).mul (LF.cf none) = CF.num 0 := CF.mul_zero _
  rw [this]
  exact prdL_num0 B
theorem LF.one {x : LF} (h : x ≠ none) : x.cf.One := by
  match x, h with
  | some none, _ => exact CF.One.num
  | some (some x), _ => exact CF.One.one1 _ _
theorem prdL_one : ∀ {L : List LF} {C : CF}, C.One → none ∉ L → (prdL C L).One
  | [], C, h, _ => h
  | x :: L, C, h, hn => by
    have hx : x ≠ none := fun e => hn (by rw [e]; exact List.mem_cons_self ..)
    unfold prdL
    rw [List.foldl_cons]
    exact prdL_one (h.mul (LF.one hx)).1 fun e => hn (List.mem_cons_of_mem _ e)
theorem prdL_s0 {p : Par} : ∀ {L : List LF} {C : CF}, C.One → none ∉ L → (∀ q, some (some (p, q)) ∉ L) → (prdL C L).s p = C.s p
  | [], C, h, _, _ => rfl
  | x :: L, C, h, hn, hp => by
    have hx : x ≠ none := fun e => hn (by rw [e]; exact List.mem_cons_self ..)
    have hm := h.mul (LF.one hx)
    unfold prdL
    rw [List.foldl_cons]
    have := prdL_s0 (p := p) hm.1 (fun e => hn (List.mem_cons_of_mem _ e)) fun q e => hp q (List.mem_cons_of_mem _ e)
    unfold prdL at this
    rw [this, hm.2]
    have hz : x.cf.s p = 0 := by
      match x, hx, hp with
      | some none, _, _ => rfl
      | some (some (p', q)), _, hp =>
        show (if p = p' then q else 0) = 0
        rw [if_neg fun e => hp q (by rw [e]; exact List.mem_cons_self ..)]
    rw [hz]; grind
theorem prdL_s1 {p : Par} {q : Rat} {L : List LF} {C : CF} {a : Nat} (h : C.One) (hn : none ∉ L) (hc : C.s p = 0) (ha : L[a]? = some (some (some (p, q)))) (hd : ∀ b q', L[b]? = some (some (some (p, q'))) → b = a) : (prdL C L).s p = q := by
  obtain ⟨hal, hae⟩ := List.getElem?_eq_some_iff.1 ha
  have e : L = L.take a ++ some (some (p, q)) :: L.drop (a + 1) := by
    rw [← hae, List.getElem_cons_drop, List.take_append_drop]
  have hnA : none ∉ L.take a := fun hh => hn (List.mem_of_mem_take hh)
  have hnB : none ∉ L.drop (a + 1) := fun hh => hn (List.mem_of_mem_drop hh)
  have hpA : ∀ q', some (some (p, q')) ∉ L.take a := fun q' hh => by
    obtain ⟨b, hb, hb2⟩ := List.getElem_of_mem hh
    rw [List.length_take] at hb
    rw [List.getElem_take] at hb2
    have := hd b q' (by rw [List.getElem?_eq_getElem (by omega), hb2])
    omega
  have hpB : ∀ q', some (some (p, q')) ∉ L.drop (a + 1) := fun q' hh => by
    obtain ⟨b, hb, hb2⟩ := List.getElem_of_mem hh
    rw [List.length_drop] at hb
    rw [List.getElem_drop] at hb2
    have := hd (a + 1 + b) q' (by rw [List.getElem?_eq_getElem (by omega), hb2])
    omega
  rw [e]
  have hA := prdL_s0 (p := p) h hnA hpA
  have hA1 := prdL_one h hnA
  have hM := hA1.mul (CF.One.one1 p q)
  have hB := prdL_s0 (p := p) hM.1 hnB hpB
  have : prdL C (L.take a ++ some (some (p, q)) :: L.drop (a + 1)) = prdL ((prdL C (L.take a)).mul (CF.one1 p q)) (L.drop (a + 1)) := by
    unfold prdL; rw [List.foldl_append, List.foldl_cons]; rfl
  rw [this, hB, hM.2, hA, hc, one1_s, if_pos rfl]; grind
noncomputable def numT (t : List UInt8) : Rat := open Classical in if h : ∃ q, SmR q ∧ t = ratT q then h.choose else 0
theorem numT_spec {t : List UInt8} (h : ∃ q, SmR q ∧ t = ratT q) : SmR (numT t) ∧ ratT (numT t) = t := by
  unfold numT
  rw [dif_pos h]
  exact ⟨h.choose_spec.1, h.choose_spec.2.symm⟩
noncomputable def featO (i : Nat) (f : Feat) (w : List UInt8) : LF := if f.2.1 = 2 then some (some (((i : Int), w), 1)) else if w = [] then (if f.2.2 = 1 then none else some none) else some (some (((i : Int), []), numT w))
noncomputable def labO (w : List UInt8) : LF := if w = [] then none else some (some ((-1, []), numT w))
noncomputable def attO (F : List Feat) (lab : Int) (a : Nat) (w : List UInt8) : LF := if (a : Int) = lab then labO w else match F.findIdx? (fun f => f.1 == a) with | some k => featO k (F.getD k (0, 0, 0)) w | none => some none
noncomputable def lifts (F : List Feat) (lab : Int) (ss : List (List UInt8)) : List LF := ss.mapIdx (attO F lab)
theorem lifts_at {F : List Feat} {lab : Int} {ss : List (List UInt8)} {a : Nat} {w : List UInt8} (h : ss[a]? = some w) : (lifts F lab ss)[a]? = some (attO F lab a w) := by
  unfold lifts; rw [List.getElem?_mapIdx, h]; rfl
theorem lifts_len {F : List Feat} {lab : Int} {ss : List (List UInt8)} : (lifts F lab ss).length = ss.length := by unfold lifts; simp
theorem feat_idx {F : List Feat} (hn : (F.map (·.1)).Nodup) {i : Nat} {f : Feat} (hf : F[i]? = some f) : F.findIdx? (fun g => g.1 == f.1) = some i := by
  obtain ⟨hi, rfl⟩ := List.getElem?_eq_some_iff.1 hf
  refine List.findIdx?_eq_some_iff_getElem.2 ⟨hi, by simp, fun j hj => ?_⟩
  simp only [beq_iff_eq]
  intro e
  have := (List.getElem_inj (xs := F.map (·.1)) (h₀ := by rw [List.length_map]; omega) (h₁ := by rw [List.length_map]; omega) (i := j) (j := i) hn).1 (by rw [List.getElem_map, List.getElem_map]; exact e)
  omega
theorem attO_feat {F : List Feat} {lab : Int} {i : Nat} {f : Feat} {w : List UInt8} (hn : (F.map (·.1)).Nodup) (hf : F[i]? = some f) (hl : (f.1 : Int) ≠ lab) : attO F lab f.1 w = featO i f w := by
  unfold attO
  rw [if_neg hl, feat_idx hn hf]
  simp [List.getD_eq_getElem?_getD, hf]
theorem attO_cases {F : List Feat} {lab : Int} {a : Nat} {w : List UInt8} (h : (a : Int) ≠ lab) : attO F lab a w = some none ∨ ∃ (i : Nat) (f : Feat), F[i]? = some f ∧ f.1 = a ∧ attO F lab a w = featO i f w := by
  unfold attO
  rw [if_neg h]
  cases hx : F.findIdx? (fun f => f.1 == a) with
  | none => exact .inl rfl
  | some k =>
    obtain ⟨hk, h1, _⟩ := List.findIdx?_eq_some_iff_getElem.1 hx
    right
    refine ⟨k, F[k], List.getElem?_eq_getElem hk, by simpa using h1, ?_⟩
    simp [List.getD_eq_getElem?_getD, List.getElem?_eq_getElem hk]
structure Ent (F : List Feat) (lab : Int) (L : List LF) (i : Nat) (E : List (Par × Rat)) (d : Bool) : Prop where
  snd : ∀ x ∈ E, some (some x) ∈ L
  lb : ∀ l : Nat, lab = (l : Int) → ∀ x, L[l]? = some (some (some x)) → x ∈ E
  ft : ∀ j f x, j < i → F[j]? = some f → L[f.1]? = some (some (some x)) → x ∈ E
  d1 : d = true → none ∈ L
  d2 : d = false → (∀ l : Nat, lab = (l : Int) → L[l]? ≠ some none) ∧ ∀ j f, j < i → F[j]? = some f → L[f.1]? ≠ some none
theorem Ent.free {F : List Feat} {L : List LF} {lab : Int} (h : lab < 0) : Ent F lab L 0 [] false :=
  ⟨fun x hx => by simp at hx, fun l hl => by omega, fun j f x hj => by omega, fun h => by simp at h, fun _ => ⟨fun l hl => by omega, fun j f hj => by omega⟩⟩
theorem Ent.labN {F : List Feat} {L : List LF} {lab : Int} {l : Nat} (hl : lab = (l : Int)) (h : L[l]? = some none) : Ent F lab L 0 [] true :=
  ⟨fun x hx => by simp at hx, fun l' hl' x hx => by
    obtain rfl : l' = l := by omega
    rw [h] at hx; exact absurd hx (by simp), fun j f x hj => by omega, fun _ => List.mem_of_getElem? h, fun h => by simp at h⟩
theorem Ent.labS {F : List Feat} {L : List LF} {lab : Int} {l : Nat} {x : Par × Rat} (hl : lab = (l : Int)) (h : L[l]? = some (some (some x))) : Ent F lab L 0 [x] false :=
  ⟨fun y hy => by
    obtain rfl := List.mem_singleton.1 hy
    exact List.mem_of_getElem? h, fun l' hl' y hy => by
    obtain rfl : l' = l := by omega
    rw [h] at hy; cases hy; exact List.mem_singleton.2 rfl, fun j f x hj => by omega, fun h => by simp at h, fun _ => ⟨fun l' hl' e => by
    obtain rfl : l' = l := by omega
    rw [h] at e; exact absurd e (by simp), fun j f hj => by omega⟩⟩
theorem Ent.skip {F : List Feat} {lab : Int} {L : List LF} {i : Nat} {E : List (Par × Rat)} {d : Bool} {f : Feat} (h : Ent F lab L i E d) (hf : F[i]? = some f) (hy : L[f.1]? = some (some none)) : Ent F lab L (i + 1) E d :=
  ⟨h.snd, h.lb, fun j g x hj hg hx => by
    rcases (by omega : j < i ∨ j = i) with e | rfl
    · exact h.ft j g x e hg hx
    · rw [hf] at hg; cases hg
      rw [hy] at hx; exact absurd hx (by simp), h.d1, fun e => ⟨(h.d2 e).1, fun j g hj hg hx => by
    rcases (by omega : j < i ∨ j = i) with e' | rfl
    · exact (h.d2 e).2 j g e' hg hx
    · rw [hf] at hg; cases hg
      rw [hy] at hx; exact absurd hx (by simp)⟩⟩
theorem Ent.drop {F : List Feat} {lab : Int} {L : List LF} {i : Nat} {E : List (Par × Rat)} {d : Bool} {f : Feat} (h : Ent F lab L i E d) (hf : F[i]? = some f) (hy : L[f.1]? = some none) : Ent F lab L (i + 1) E true :=
  ⟨h.snd, h.lb, fun j g x hj hg hx => by
    rcases (by omega : j < i ∨ j = i) with e | rfl
    · exact h.ft j g x e hg hx
    · rw [hf] at hg; cases hg
      rw [hy] at hx; exact absurd hx (by simp), fun _ => List.mem_of_getElem? hy, fun e => by simp at e⟩
theorem Ent.put {F : List Feat} {lab : Int} {L : List LF} {i : Nat} {E : List (Par × Rat)} {d : Bool} {f : Feat} {x : Par × Rat} (h : Ent F lab L i E d) (hf : F[i]? = some f) (hy : L[f.1]? = some (some (some x))) : Ent F lab L (i + 1) (E ++ [x]) d :=
  ⟨fun y hy' => by
    rcases List.mem_append.1 hy' with e | e
    · exact h.snd y e
    · obtain rfl := List.mem_singleton.1 e
      exact List.mem_of_getElem? hy, fun l hl y hy' => List.mem_append_left _ (h.lb l hl y hy'), fun j g y hj hg hx => by
    rcases (by omega : j < i ∨ j = i) with e | rfl
    · exact List.mem_append_left _ (h.ft j g y e hg hx)
    · rw [hf] at hg; cases hg
      rw [hy] at hx; cases hx
      exact List.mem_append_right _ (List.mem_singleton.2 rfl), h.d1, fun e => ⟨(h.d2 e).1, fun j g hj hg hx => by
    rcases (by omega : j < i ∨ j = i) with e' | rfl
    · exact (h.d2 e).2 j g e' hg hx
    · rw [hf] at hg; cases hg
      rw [hy] at hx; exact absurd hx (by simp)⟩⟩
theorem lifts_key {F : List Feat} {lab : Int} {ss : List (List UInt8)} (hl : -1 ≤ lab) {a b : Nat} {p : Par} {q q' : Rat} (ha : (lifts F lab ss)[a]? = some (some (some (p, q)))) (hb : (lifts F lab ss)[b]? = some (some (some (p, q')))) : b = a := by
  have key : ∀ {a : Nat} {q : Rat}, (lifts F lab ss)[a]? = some (some (some (p, q))) → ((a : Int) = lab ∧ p.1 = -1) ∨ ∃ (i : Nat) (f : Feat), F[i]? = some f ∧ f.1 = a ∧ p.1 = (i : Int) := by
    intro a q ha
    unfold lifts at ha
    rw [List.getElem?_mapIdx] at ha
    cases hw : ss[a]? with
    | none => rw [hw] at ha; cases ha
    | some w =>
      rw [hw] at ha
      simp only [Option.map_some, Option.some.injEq] at ha
      by_cases h : (a : Int) = lab
      · left
        unfold attO labO at ha
        rw [if_pos h] at ha
        split at ha
        · cases ha
        · cases ha; exact ⟨h, rfl⟩
      · right
        rcases attO_cases (F := F) (w := w) h with e | ⟨i, f, h1, h2, h3⟩
        · rw [e] at ha; cases ha
        · rw [h3] at ha
          refine ⟨i, f, h1, h2, ?_⟩
          unfold featO at ha
          split at ha
          · cases ha; rfl
          · split at ha
            · split at ha <;> cases ha
            · cases ha; rfl
  rcases key ha with ⟨h1, h2⟩ | ⟨i, f, h1, h2, h3⟩ <;> rcases key hb with ⟨k1, k2⟩ | ⟨i', f', k1, k2, k3⟩
  · omega
  · omega
  · omega
  · obtain rfl : i' = i := by omega
    rw [h1] at k1; cases k1
    omega
theorem Ent.uniq {F : List Feat} {lab : Int} {ss : List (List UInt8)} {i : Nat} {E : List (Par × Rat)} {d : Bool} (h : Ent F lab (lifts F lab ss) i E d) (hl : -1 ≤ lab) {x : Par × Rat} {a : Nat} (ha : (lifts F lab ss)[a]? = some (some (some x))) {y : Par × Rat} (hy : y ∈ E) (e : y.1 = x.1) : y = x := by
  obtain ⟨b, hb, hb2⟩ := List.getElem_of_mem (h.snd y hy)
  have hb3 : (lifts F lab ss)[b]? = some (some (some y)) := by rw [List.getElem?_eq_getElem hb, hb2]
  obtain ⟨p, q⟩ := x
  obtain ⟨p', q'⟩ := y
  simp only at e; subst e
  have := lifts_key hl ha hb3
  subst this
  rw [ha] at hb3
  cases hb3; rfl
theorem Ent.fin {F : List Feat} {lab : Int} {ss : List (List UInt8)} {E : List (Par × Rat)} (h : Ent F lab (lifts F lab ss) F.length E false) (hl : -1 ≤ lab) :
    none ∉ lifts F lab ss ∧ ∀ x, some (some x) ∈ lifts F lab ss → x ∈ E := by
  have key : ∀ {a : Nat} {y : LF}, (lifts F lab ss)[a]? = some y → y ≠ some none → ((a : Int) = lab) ∨ ∃ (i : Nat) (f : Feat), F[i]? = some f ∧ f.1 = a := by
    intro a y ha hy
    unfold lifts at ha
    rw [List.getElem?_mapIdx] at ha
    cases hw : ss[a]? with
    | none => rw [hw] at ha; cases ha
    | some w =>
      rw [hw] at ha
      simp only [Option.map_some, Option.some.injEq] at ha
      by_cases h : (a : Int) = lab
      · exact .inl h
      · rcases attO_cases (F := F) (w := w) h with e | ⟨i, f, h1, h2, h3⟩
        · rw [e] at ha; exact absurd ha.symm hy
        · exact .inr ⟨i, f, h1, h2⟩
  obtain ⟨d1, d2⟩ := h.d2 rfl
  constructor
  · intro hm
    obtain ⟨a, ha, ha2⟩ := List.getElem_of_mem hm
    have ha3 : (lifts F lab ss)[a]? = some none := by rw [List.getElem?_eq_getElem ha, ha2]
    rcases key ha3 (by simp) with e | ⟨i, f, h1, rfl⟩
    · exact d1 a e.symm ha3
    · obtain ⟨hi, _⟩ := List.getElem?_eq_some_iff.1 h1
      exact d2 i f hi h1 ha3
  · intro x hm
    obtain ⟨a, ha, ha2⟩ := List.getElem_of_mem hm
    have ha3 : (lifts F lab ss)[a]? = some (some (some x)) := by rw [List.getElem?_eq_getElem ha, ha2]
    rcases key ha3 (by simp) with e | ⟨i, f, h1, rfl⟩
    · exact h.lb a e.symm x ha3
    · obtain ⟨hi, _⟩ := List.getElem?_eq_some_iff.1 h1
      exact h.ft i f x hi h1 ha3
theorem Ent.prod {F : List Feat} {lab : Int} {ss : List (List UInt8)} {E : List (Par × Rat)} (h : Ent F lab (lifts F lab ss) F.length E false) (hl : -1 ≤ lab) :
    (prdL (CF.num 1) (lifts F lab ss)).One ∧ (∀ x ∈ E, (prdL (CF.num 1) (lifts F lab ss)).s x.1 = x.2) ∧ ∀ p, p ∉ E.map (·.1) → (prdL (CF.num 1) (lifts F lab ss)).s p = 0 := by
  obtain ⟨hn, hall⟩ := h.fin hl
  refine ⟨prdL_one CF.One.num hn, fun x hx => ?_, fun p hp => ?_⟩
  · obtain ⟨a, ha, ha2⟩ := List.getElem_of_mem (h.snd x hx)
    have ha3 : (lifts F lab ss)[a]? = some (some (some x)) := by rw [List.getElem?_eq_getElem ha, ha2]
    obtain ⟨p, q⟩ := x
    exact prdL_s1 CF.One.num hn rfl ha3 fun b q' hb => lifts_key hl ha3 hb
  · exact prdL_s0 CF.One.num hn fun q hm => hp (List.mem_map.2 ⟨(p, q), hall _ hm, rfl⟩)
theorem CF.One.pair {F : CF} (h : F.One) (p q : Par) : F.t (pairP p q) = F.s p * F.s q := by
  unfold pairP
  have h1 := ordP.sym p q
  have h2 := ordP.sym q p
  by_cases e : 0 < cmpP p q
  · rw [if_pos e, h.t, if_neg (by simp only; omega)]
    simp only; grind
  · rw [if_neg e, h.t, if_neg e]
theorem can_len {f : Par → Rat} {T : List (Par × Rat)} {ks : List Par} (h : Can cmpP f T) (h0 : ∀ p, p ∉ ks → f p = 0) : T.length ≤ ks.length := by
  have hnd : (T.map (·.1)).Nodup := List.Pairwise.imp (fun {a b} hab e => by subst e; exact ordP.irr a hab) h.srt
  have hsub : ∀ p ∈ T.map (·.1), p ∈ ks := fun p hp => by
    obtain ⟨x, hx, rfl⟩ := List.mem_map.1 hp
    obtain ⟨h1, h2⟩ := h.val x hx
    rcases Classical.em (x.1 ∈ ks) with e | e
    · exact e
    · exact absurd (by rw [h1]; exact h0 _ e) h2
  have := List.Nodup.length_le_of_subset hnd hsub
  rwa [List.length_map] at this
end Go.Proofs.YtikfmknnbjocmaaGreatDoor
end
section
set_option linter.unusedSectionVars false
set_option linter.unusedVariables false
namespace Go.Proofs.YtikfmknnbjocmaaGreatDoor
open Go.RowKit Go.MapKept
theorem CofP.up {u : PH} {v : Value} {F : CF} {K K' : Nat} (h : CofP u v F K) (hk : K ≤ K') : CofP u v F K' := by
  obtain ⟨T, Q, a1, c1, a2, c2, e, hT, hQ, cT, cQ, kT, kQ⟩ := h
  exact ⟨T, Q, a1, c1, a2, c2, e, hT, hQ, cT, cQ, by omega, by omega⟩
theorem RngP.up {u : PH} {v : Value} {F : CF} {K K' : Nat} (h : RngP u v F K) (hk : K ≤ K') : RngP u v F K' := by
  obtain ⟨r, e, h⟩ := h
  exact ⟨r, e, h.up hk⟩
theorem SmR.dat {q : Rat} (h : SmR q) : Dat q := ⟨by have := h.num; omega, h.le⟩
theorem SmR.sb {q : Rat} (h : SmR q) : SB q := h.dn.small (by omega) (pw (by decide +kernel))
theorem SmR.sb2 {q : Rat} (h : SmR q) : SB (q * q) := (h.dn.mul h.dn).small (by omega) (pw (by decide +kernel))
theorem smR_one : SmR 1 := ⟨by decide +kernel, by decide +kernel⟩
def LF.Small : LF → Prop
  | some (some x) => SmR x.2 ∧ PV x.1
  | _ => True
theorem LF.Small.cfd {x : LF} (h : x.Small) : CFD 2 11664 x.cf := by
  match x, h with
  | none, _ => exact CFD.count (Dn.zero _ _)
  | some none, _ => exact CFD.count ⟨144, by decide +kernel, by decide⟩
  | some (some x), h =>
    have hq : Dn 2 11664 x.2 := by
      have := h.1.dn.mul (show Dn 1 108 1 from ⟨12, by decide +kernel, by decide⟩)
      rw [show x.2 * 1 = x.2 by grind] at this
      exact this.mono (by omega)
    exact one1_cfd ⟨144, by decide +kernel, by decide⟩ hq ((h.1.dn.mul h.1.dn).mono (by omega))
theorem LF.Small.cfv {x : LF} (h : x.Small) : CFV x.cf := by
  match x, h with
  | none, _ => exact CFV.count 0
  | some none, _ => exact CFV.count 1
  | some (some x), h => exact one1_cfv h.2
theorem prdL_cfd {L : List LF} (h : ∀ x ∈ L, x.Small) : ∀ i, i ≤ L.length → CFD (2 * i) (46656 ^ i) (prdL (CF.num 1) (L.take i)) ∧ CFV (prdL (CF.num 1) (L.take i))
  | 0, _ => ⟨CFD.count ⟨1, by decide +kernel, by decide⟩, CFV.count 1⟩
  | i + 1, hi => by
    obtain ⟨h1, h2⟩ := prdL_cfd h i (by omega)
    have hx := h _ (List.getElem_mem (show i < L.length by omega))
    have e : L.take (i + 1) = L.take i ++ [L[i]] := by rw [List.take_add_one, List.getElem?_eq_getElem (by omega)]; rfl
    rw [e, prdL_snoc]
    refine ⟨?_, h2.mul hx.cfv⟩
    have := h1.mul hx.cfd
    rw [show 2 * (i + 1) = 2 * i + 2 by omega]
    exact this.mono (by rw [Nat.pow_succ]; omega)
theorem pow6 {i : Nat} (h : i ≤ 6) : 46656 ^ i < 10 ^ 30 := Nat.lt_of_le_of_lt (Nat.pow_le_pow_right (by omega) h) (by decide +kernel)
theorem pow6' {i : Nat} (h : i < 6) : 8 * (46656 ^ i * 11664) < 10 ^ 100 := by
  have : 46656 ^ i ≤ 46656 ^ 6 := Nat.pow_le_pow_right (by omega) (by omega)
  have h2 : 46656 ^ 6 < 10 ^ 30 := by decide +kernel
  have h3 : (10 : Nat) ^ 30 * 100000 < 10 ^ 100 := by decide +kernel
  omega
theorem value0 {u : PH} {x : List UInt8 × Nat} {t : List UInt8} (h1 : 1 ≤ x.2) (h3 : x.2 ≤ 3) (hv : ValOK x.2 t) : Fn0 Tryz.prog 42 [attV x, .string (mkS t)] u fun v _ => v = .bool true := by
  obtain ⟨s, k⟩ := x
  rcases hv with rfl | ⟨rfl, hw⟩ | ⟨rfl, z, hz, rfl⟩ | ⟨rfl, q, hq, rfl⟩
  · exact valueE0 h1 h3
  · exact valueC0 hw
  · exact valueK0 hz
  · exact valueN0 hq.dat
theorem valOK_num2 {t : List UInt8} (h : ValOK 2 t) (hne : t ≠ []) : SmR (numT t) ∧ ratT (numT t) = t := by
  rcases h with e | ⟨e, _⟩ | ⟨e, _⟩ | ⟨_, q, hq, e⟩
  · exact absurd e hne
  · omega
  · omega
  · exact numT_spec ⟨q, hq, e⟩
theorem attF_of {F : List Feat} {a : Nat} {k : Nat} (h : F.findIdx? (fun f => f.1 == a) = some k) : attF F a = (k : Int) := by unfold attF idxF; rw [h]
theorem attO_small {T : List (List UInt8 × Nat)} {F : List Feat} {lab : Int} {a : Nat} {x : List UInt8 × Nat} {t : List UInt8} (hF : FeatOK T F lab) (hl2 : ∀ l : Nat, lab = (l : Int) → ∃ n, T[l]? = some (n, 2)) (hfl : F.length ≤ 8) (hx : T[a]? = some x) (hv : ValOK x.2 t) : (attO F lab a t).Small := by
  by_cases hlab : (a : Int) = lab
  · obtain ⟨n, hn⟩ := hl2 a hlab.symm
    rw [hx] at hn; cases hn
    unfold attO labO
    rw [if_pos hlab]
    by_cases ht : t = []
    · rw [if_pos ht]; trivial
    · rw [if_neg ht]
      exact ⟨(valOK_num2 hv ht).1, ⟨by show (-1 : Int) ≤ -1; omega, by show (-1 : Int) ≤ 1000; omega, .inl rfl⟩⟩
  · rcases attO_cases (F := F) (w := t) hlab with e | ⟨i, f, h1, rfl, h3⟩
    · rw [e]; trivial
    · rw [h3]
      obtain ⟨hi, _⟩ := List.getElem?_eq_some_iff.1 h1
      obtain ⟨n, k, hk, hkind, _⟩ := hF.ok f (List.mem_of_getElem? h1)
      rw [hk] at hx; cases hx
      unfold featO
      rcases hkind with ⟨k1, k2, k3⟩ | ⟨k1, k2, k3⟩
      · rw [if_neg (by omega)]
        by_cases ht : t = []
        · rw [if_pos ht]; split <;> trivial
        · rw [if_neg ht]
          subst k2
          exact ⟨(valOK_num2 hv ht).1, ⟨by show (-1 : Int) ≤ (i : Int); omega, by show (i : Int) ≤ 1000; omega, .inl rfl⟩⟩
      · rw [if_pos k1]
        refine ⟨smR_one, ⟨by show (-1 : Int) ≤ (i : Int); omega, by show (i : Int) ≤ 1000; omega, ?_⟩⟩
        rcases hv with e | ⟨_, hw⟩ | ⟨e, _⟩ | ⟨e, _⟩
        · exact .inl e
        · exact .inr hw
        · omega
        · omega
theorem liftAll0 {u : PH} {v : Value} {T : List (List UInt8 × Nat)} {R : List SRel} {F : List Feat} {lab : Int} {a : Nat} {x : List UInt8 × Nat} {t : List UInt8} (ht : TabU u) (h : SchP u v T R F lab) (ok : SchOK u T R F lab) (hx : T[a]? = some x) (hv : ValOK x.2 t) (h1 : 1 ≤ x.2) (h3 : x.2 ≤ 3) :
    Fn0 Tryz.prog 14 [v, .int .i64 (a : Int), .string (mkS t)] u fun r u' => RngP u' r (attO F lab a t).cf 1 := by
  have hs : CFS (attO F lab a t).cf := (attO_small ok.feat ok.l2 ok.f2 hx hv).cfd.cfs (by omega) (pw (by decide +kernel))
  have hnd := ok.feat.nodup
  have run : ∀ {N : Nat}, N ≤ 1 → (∀ u', PH.le u u' → Fn0 Tryz.prog 43 [v, .int .i64 (a : Int), .string (mkS t)] u' fun r u'' => MomP u'' r (attO F lab a t).cf N) → Fn0 Tryz.prog 14 [v, .int .i64 (a : Int), .string (mkS t)] u fun r u' => RngP u' r (attO F lab a t).cf 1 :=
    fun {N} hN hl => Fn0.weak (ringLift0 ht h ok hx (fun u' _ => value0 h1 h3 hv) hl hs (by omega)) fun r u' hr => hr.up hN
  have n0 : CF.num ((0 : Int) : Rat) = CF.num 0 := by rw [show ((0 : Int) : Rat) = 0 by decide +kernel]
  have n1 : CF.num ((1 : Int) : Rat) = CF.num 1 := by rw [show ((1 : Int) : Rat) = 1 by decide +kernel]
  by_cases hlab : (a : Int) = lab
  · obtain ⟨n, hn⟩ := ok.l2 a hlab.symm
    rw [hx] at hn; cases hn
    have e : attO F lab a t = labO t := by unfold attO; rw [if_pos hlab]
    rw [e] at run ⊢
    unfold labO at run ⊢
    by_cases hte : t = []
    · rw [if_pos hte] at run ⊢
      subst hte
      refine run (N := 0) (by omega) fun u' l => ?_
      have := liftLabE0 (h.mono l) (ok.mono l) (a := a) (i := attF F a) rfl hlab
      rw [n0] at this; exact this
    · rw [if_neg hte] at run ⊢
      obtain ⟨g1, g2⟩ := valOK_num2 hv hte
      refine run (N := 1) (by omega) fun u' l => ?_
      subst hlab
      have := liftLab0 (h.mono l) (ok.mono l) (a := a) (q := numT t) g1.tx g1.sb g1.sb2
      rw [g2] at this; exact this
  · cases hidx : F.findIdx? (fun f => f.1 == a) with
    | none =>
      have e : attO F lab a t = some none := by unfold attO; rw [if_neg hlab, hidx]
      rw [e] at run ⊢
      refine run (N := 0) (by omega) fun u' l => ?_
      have := liftNone0 (h.mono l) (ok.mono l) (a := a) (s := t) (by unfold attF idxF; rw [hidx]) hlab
      rw [n1] at this; exact this
    | some k =>
      have e : attO F lab a t = featO k (F.getD k (0, 0, 0)) t := by unfold attO; rw [if_neg hlab, hidx]
      obtain ⟨hk, hk1, _⟩ := List.findIdx?_eq_some_iff_getElem.1 hidx
      have hkf : F[k]? = some F[k] := List.getElem?_eq_getElem hk
      obtain ⟨n, kd, hkk, hkind, _⟩ := ok.feat.ok F[k] (List.getElem_mem hk)
      have hka : F[k].1 = a := by simpa using hk1
      simp only [List.getD_eq_getElem?_getD, hkf, Option.getD_some] at e
      generalize F[k] = f at hkf hkk hkind hka e
      obtain ⟨fa, fk, fm⟩ := f
      simp only at hkk hkind hka
      subst hka
      rw [hkk] at hx; cases hx
      have hat := attF_of hidx
      rw [e] at run ⊢
      unfold featO at run ⊢
      simp only at run ⊢
      rcases hkind with ⟨k1, k2, k3⟩ | ⟨k1, k2, k3⟩
      · subst k1
        subst k2
        rw [if_neg (by omega)] at run ⊢
        by_cases hte : t = []
        · rw [if_pos hte] at run ⊢
          subst hte
          by_cases hm : fm = 1
          · subst hm
            rw [if_pos rfl] at run ⊢
            refine run (N := 0) (by omega) fun u' l => ?_
            have := liftDrop0 (h.mono l) (ok.mono l) hat hkf hlab
            rw [n0] at this; exact this
          · obtain rfl : fm = 0 := by omega
            rw [if_neg hm] at run ⊢
            refine run (N := 0) (by omega) fun u' l => ?_
            have := liftKeep0 (h.mono l) (ok.mono l) hat hkf hlab
            rw [n1] at this; exact this
        · rw [if_neg hte] at run ⊢
          obtain ⟨g1, g2⟩ := valOK_num2 hv hte
          refine run (N := 1) (by omega) fun u' l => ?_
          have := liftNum0 (h.mono l) (ok.mono l) hlab hat ⟨fm, hkf⟩ (q := numT t) g1.tx g1.sb g1.sb2
          rw [g2] at this; exact this
      · subst k1
        subst k3
        rw [if_pos rfl] at run ⊢
        refine run (N := 1) (by omega) fun u' l => ?_
        have := liftHot0 (h.mono l) (ok.mono l) (s := t) hat hkf hlab
        rw [show ((1 : Int) : Rat) = 1 by decide +kernel] at this
        exact this
end Go.Proofs.YtikfmknnbjocmaaGreatDoor
end
