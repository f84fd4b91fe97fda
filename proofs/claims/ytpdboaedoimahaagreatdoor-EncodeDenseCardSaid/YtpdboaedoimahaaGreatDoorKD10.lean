/- Joined out of parts of one proof by a program: contracts of the functions that the statement reaches, and the plain facts behind them. -/
import Derived.Test.YtpdboaedoimahaaGreatDoorKD09
set_option linter.unusedVariables false
set_option linter.unusedSimpArgs false
set_option linter.unusedSectionVars false
section
set_option linter.unusedSectionVars false
set_option linter.unusedVariables false
namespace Go.Proofs.YtpdboaedoimahaaGreatDoor
open Go.RowKit Go.MapKept
theorem ElP.fld {u : PH} {b off j : Nat} {xs : Array Value} {x : Value} (h : ElP u b off (.agg xs)) (hx : xs[j]? = some x) (hc : x.cells = #[x]) : ElP u b (off + j) x := h.sub fun i y hy => by
 rw [hc] at hy
 match i, hy with
 | 0, hy => simp at hy; subst hy; exact hx
 | i + 1, hy => simp at hy
def path (P : Program) : List KI × S → List Value → List KI × S
 | st, [] => st
 | st, v :: l => path P (nx (adv P st) v) l
section
variable {P : Program} [Mixed P] {fn : Func} {Post : Spec} {st : List KI × S} {u m : PH}
theorem G.joinF {ι : Type} (f : List KI × S → List KI × S) (T : ι → List (Nat × SV)) (B : ι → List (Nat × Blk)) (Inv : ι → PH → PH → Prop) (hl : ∀ i, liveB (T i) (B i) = true) (hn : noReg (meet P 200 (f st)).1 = true)
  (tail : ∀ i u' m', PH.le u u' → Inv i u' m' → G P fn Post ((meet P 200 (f st)).1, S.of (meet P 200 (f st)).2.n (T i) (B i)) u' m')
  (k : (∀ i st' u' m', (meet P 200 st').1 = (meet P 200 (f st)).1 → Cov (meet P 200 (f st)).2.n (meet P 200 st').2 (T i) (B i) → PH.le u u' → Inv i u' m' → G P fn Post st' u' m') → G P fn Post st u m) : G P fn Post st u m := by
 refine k fun i st' u' m' h1 h2 h3 h4 => ?_
 have hc : Cov (meet P 200 st').2.n (meet P 200 st').2 (T i) (B i) := ⟨rfl, h2.t, h2.b⟩
 refine G.canon (T i) (B i) (by rw [h1]; exact hn) (hl i) hc ?_
 rw [h1, h2.n]
 exact tail i u' m' h3 h4
end
theorem names_at {L : List (List UInt8)} (h : L.Nodup) {i k : Nat} {x y : List UInt8} (hx : L[i]? = some x) (hy : L[k]? = some y) (hne : k ≠ i) : y ≠ x := fun e => by
 subst e
 obtain ⟨a1, a2⟩ := List.getElem?_eq_some_iff.1 hx
 obtain ⟨b1, b2⟩ := List.getElem?_eq_some_iff.1 hy
 rcases Nat.lt_or_gt_of_ne hne with e | e
 ·exact absurd (b2.trans a2.symm) (List.pairwise_iff_getElem.1 h k i b1 a1 e)
 ·exact absurd (a2.trans b2.symm) (List.pairwise_iff_getElem.1 h i k a1 b1 e)
set_option maxHeartbeats 2000000 in
theorem refWord0 {u : PH} {s : List UInt8} (h : wordB s = true) : Fn0 Tryz.prog 164 [.string (mkS s)] u fun v _ => v = .bool true := by
 obtain ⟨hl1, hl2⟩ := wordB_len h
 obtain ⟨c0, hc0⟩ : ∃ c, s[0]? = some c := ⟨_, List.getElem?_eq_getElem (by omega)⟩
 have hw0 := wordB_at h hc0
 refine Fn0.of Tryz.func164 (by kernel_rfl) (by kernel_rfl) ?_
 refine G.eqlF (s.length : Int) 0 (by kernel_rfl) (by omega) ?_
 refine G.gtrF (s.length : Int) 12 (by kernel_rfl) (by omega) ?_
 refine G.idxS s 0 c0 (by kernel_rfl) hc0 ?_
 refine G.cmpG .lss .u8 (c0.toNat : Int) 97 false (by kernel_rfl) rfl (by simp only [cmpZ, decide_eq_false_iff_not]; omega) ?_
 refine G.idxS s 0 c0 (by kernel_rfl) hc0 ?_
 refine G.cmpG .gtr .u8 (c0.toNat : Int) 122 false (by kernel_rfl) rfl (by simp only [cmpZ, decide_eq_false_iff_not]; omega) ?_
 refine G.loop (ι := Nat) (fun i => [(0, .v (.string (mkS s))), (3, .v (.int .i64 (i : Int)))]) (fun _ => [])
  (fun i u' m' => i ≤ s.length ∧ m' = PH.mt) (fun i => s.length - i) 0 (by kernel_rfl) (fun _ => by kernel_rfl) ⟨by kernel_rfl, by kernel_rfl, by kernel_rfl⟩ ⟨by omega, rfl⟩ ?_
 rintro J i hJ u2 m2 l2 ⟨hi, rfl⟩
 by_cases hlt : i < s.length
 ·refine G.lssT (i : Int) (s.length : Int) (by kernel_rfl) (by omega) ?_
  obtain ⟨b, hsi⟩ : ∃ b, s[i]? = some b := ⟨_, List.getElem?_eq_getElem hlt⟩
  have hw := wordB_at h hsi
  refine G.idxS s i b (by kernel_rfl) hsi ?_
  by_cases h97 : 97 ≤ b.toNat
  ·refine G.cmpG .geq .u8 (b.toNat : Int) 97 true (by kernel_rfl) rfl (by simp only [cmpZ, decide_eq_true_eq]; omega) ?_
   refine G.idxS s i b (by kernel_rfl) hsi ?_
   refine G.cmpG .leq .u8 (b.toNat : Int) 122 true (by kernel_rfl) rfl (by simp only [cmpZ, decide_eq_true_eq]; omega) ?_
   refine G.add (i : Int) 1 ((i + 1 : Nat) : Int) (by kernel_rfl) (by omega) (by omega) (by omega) ?_
   exact G.back (by kernel_rfl) (hJ (i + 1) _ _ _ ⟨by kernel_rfl, by kernel_rfl, by kernel_rfl⟩ l2 ⟨by omega, rfl⟩ (by omega))
  ·refine G.cmpG .geq .u8 (b.toNat : Int) 97 false (by kernel_rfl) rfl (by simp only [cmpZ, decide_eq_false_iff_not]; omega) ?_
   refine G.idxS s i b (by kernel_rfl) hsi ?_
   by_cases h48 : 48 ≤ b.toNat
   ·refine G.cmpG .geq .u8 (b.toNat : Int) 48 true (by kernel_rfl) rfl (by simp only [cmpZ, decide_eq_true_eq]; omega) ?_
    refine G.idxS s i b (by kernel_rfl) hsi ?_
    refine G.cmpG .leq .u8 (b.toNat : Int) 57 true (by kernel_rfl) rfl (by simp only [cmpZ, decide_eq_true_eq]; omega) ?_
    refine G.add (i : Int) 1 ((i + 1 : Nat) : Int) (by kernel_rfl) (by omega) (by omega) (by omega) ?_
    exact G.back (by kernel_rfl) (hJ (i + 1) _ _ _ ⟨by kernel_rfl, by kernel_rfl, by kernel_rfl⟩ l2 ⟨by omega, rfl⟩ (by omega))
   ·refine G.cmpG .geq .u8 (b.toNat : Int) 48 false (by kernel_rfl) rfl (by simp only [cmpZ, decide_eq_false_iff_not]; omega) ?_
    refine G.idxS s i b (by kernel_rfl) hsi ?_
    refine G.cmpG .eql .u8 (b.toNat : Int) 45 true (by kernel_rfl) rfl (by simp only [cmpZ, decide_eq_true_eq]; omega) ?_
    refine G.add (i : Int) 1 ((i + 1 : Nat) : Int) (by kernel_rfl) (by omega) (by omega) (by omega) ?_
    exact G.back (by kernel_rfl) (hJ (i + 1) _ _ _ ⟨by kernel_rfl, by kernel_rfl, by kernel_rfl⟩ l2 ⟨by omega, rfl⟩ (by omega))
 ·obtain rfl : i = s.length := by omega
  refine G.lssF (s.length : Int) (s.length : Int) (by kernel_rfl) (by omega) ?_
  exact G.ret (.bool true) (by kernel_rfl) ⟨rfl, rfl⟩
set_option maxHeartbeats 16000000 in
theorem refCheck0 {u : PH} {v : Value} {T : List (List UInt8 × Nat)} {R : List SRel} {F : List Feat} {lab : Int} (h : SchP u v T R F lab) (ok : SchOK u T R F lab) :
  Fn0 Tryz.prog 103 [v] u fun r _ => r = .int .i64 0 := by
 obtain ⟨xa, xc, xb, xd, xe, xf, rfl, hT, hR, hF⟩ := h
 have t1 := ok.t1
 have t2 := ok.t2
 have r1 := ok.r1
 have r2 := ok.r2
 have f2 := ok.f2
 have lo := ok.l1
 have hi : lab < T.length := by
  rcases Int.lt_or_le lab 0 with hlt | hge
  ·omega
  ·obtain ⟨n, hn⟩ := ok.l2 lab.toNat (by omega)
   obtain ⟨hk, _⟩ := List.getElem?_eq_some_iff.1 hn
   omega
 refine Fn0.of Tryz.func103 (by kernel_rfl) (by kernel_rfl) ?_
 refine G.eqlF (T.length : Int) 0 (by kernel_rfl) (by omega) ?_
 refine G.gtrF (T.length : Int) 12 (by kernel_rfl) (by omega) ?_
 refine G.eqlF (R.length : Int) 0 (by kernel_rfl) (by omega) ?_
 refine G.gtrF (R.length : Int) 6 (by kernel_rfl) (by omega) ?_
 refine G.gtrF (F.length : Int) 8 (by kernel_rfl) (by omega) ?_
 refine G.loop (ι := Nat) (fun i => [(1, .p 0 0), (49, .v (.slice xa T.length xc)), (50, .v (.int .i64 (T.length : Int))), (51, .v (.int .i64 (i : Int)))])
  (fun _ => [(0, ⟨30, [.v (.slice xa T.length xc), .v (.slice xb R.length xd), .v (.slice xe F.length xf), .v (.int .i64 lab)]⟩)])
  (fun i u' m' => i ≤ T.length ∧ m' = PH.mt) (fun i => T.length - i) 0 (by kernel_rfl) (fun _ => by kernel_rfl) ⟨by kernel_rfl, by kernel_rfl, by kernel_rfl⟩ ⟨by omega, rfl⟩ ?_
 rintro J i hJ u1 m1 l1 ⟨hi1, rfl⟩
 by_cases hlt : i < T.length
 ·refine G.lssT (i : Int) (T.length : Int) (by kernel_rfl) (by omega) ?_
  obtain ⟨x, hTi⟩ : ∃ x, T[i]? = some x := ⟨_, List.getElem?_eq_getElem hlt⟩
  have hxm := List.mem_of_getElem? hTi
  obtain ⟨hk1, hk3⟩ := ok.att.kind x hxm
  have hword := ok.att.names.word x.1 (List.mem_map.2 ⟨x, hxm, rfl⟩)
  have hnx : (T.map (·.1))[i]? = some x.1 := by rw [List.getElem?_map, hTi]; rfl
  obtain ⟨ba, oa, rfl, ea⟩ := ListP.at' (hT.mono l1) (j := i) (e := attV x) (by simp [hTi])
  obtain ⟨xn, xk⟩ := x
  simp only at hk1 hk3 hword hnx
  refine G.addr ba oa T.length xc i 2 (by kernel_rfl) hlt ?_
  refine G.loadU (some 2) ba (oa + i * 2) (.agg #[.string (mkS xn), .int .i64 (xk : Int)]) (by kernel_rfl) (by kernel_rfl) ea ?_
  refine G.call0 _ _ (by kernel_rfl) Tryz.call164 (refWord0 hword) ?_
  rintro v2 u2 l2 rfl
  refine G.loop (ι := Nat) (fun k => [(1, .p 0 0), (3, .v (.int .i64 (i : Int))), (4, .p 5003 0), (5, .v (.int .i64 (k : Int))), (49, .v (.slice (some ⟨ba, oa, none⟩) T.length xc)), (50, .v (.int .i64 (T.length : Int))), (51, .v (.int .i64 (i : Int)))])
   (fun _ => [(0, ⟨30, [.v (.slice (some ⟨ba, oa, none⟩) T.length xc), .v (.slice xb R.length xd), .v (.slice xe F.length xf), .v (.int .i64 lab)]⟩), (5003, ⟨61, [.v (.string (mkS xn)), .v (.int .i64 (xk : Int))]⟩)])
   (fun k u' m' => k ≤ i ∧ m' = PH.mt) (fun k => i - k) 0 (by kernel_rfl) (fun _ => by kernel_rfl) ⟨by kernel_rfl, by kernel_rfl, by kernel_rfl⟩ ⟨by omega, rfl⟩ ?_
  rintro J2 k hJ2 u3 m3 l3 ⟨hk, rfl⟩
  by_cases hlk : k < i
  ·refine G.lssT (k : Int) (i : Int) (by kernel_rfl) (by omega) ?_
   obtain ⟨y, hTk⟩ : ∃ y, T[k]? = some y := ⟨_, List.getElem?_eq_getElem (by omega)⟩
   have hny : (T.map (·.1))[k]? = some y.1 := by rw [List.getElem?_map, hTk]; rfl
   have hne := names_at ok.att.names.nodup hnx hny (by omega)
   obtain ⟨_, _, e', ek⟩ := ListP.at' (hT.mono ((l1.trans l2).trans l3)) (j := k) (e := attV y) (by simp [hTk])
   cases e'
   refine G.addr ba oa T.length xc k 2 (by kernel_rfl) (by omega) ?_
   refine G.fieldA 61 ba (oa + k * 2) 0 0 (by kernel_rfl) (by kernel_rfl) ?_
   refine G.loadU none ba (oa + k * 2 + 0) (.string (mkS y.1)) (by kernel_rfl) (by kernel_rfl) (ek.fld rfl rfl) ?_
   refine G.eqSF y.1 xn (by kernel_rfl) hne ?_
   refine G.add (k : Int) 1 ((k + 1 : Nat) : Int) (by kernel_rfl) (by omega) (by omega) (by omega) ?_
   exact G.back (by kernel_rfl) (hJ2 (k + 1) _ _ _ ⟨by kernel_rfl, by kernel_rfl, by kernel_rfl⟩ l3 ⟨by omega, rfl⟩ (by omega))
  ·obtain rfl : k = i := by omega
   refine G.lssF (k : Int) (k : Int) (by kernel_rfl) (by omega) ?_
   refine G.lssF (xk : Int) 1 (by kernel_rfl) (by omega) ?_
   refine G.gtrF (xk : Int) 3 (by kernel_rfl) (by omega) ?_
   refine G.add (k : Int) 1 ((k + 1 : Nat) : Int) (by kernel_rfl) (by omega) (by omega) (by omega) ?_
   exact G.back (by kernel_rfl) (hJ (k + 1) _ _ _ ⟨by kernel_rfl, by kernel_rfl, by kernel_rfl⟩ ((l1.trans l2).trans l3) ⟨by omega, rfl⟩ (by omega))
 obtain rfl : i = T.length := by omega
 refine G.lssF (T.length : Int) (T.length : Int) (by kernel_rfl) (by omega) ?_
 clear hJ
 refine G.make 4 1 1 (.bool false) T.length (by kernel_rfl) rfl rfl (by omega) (by omega) (by omega) ?_
 rintro v1 mA hA1 ⟨ad, rfl⟩
 obtain ⟨g, rfl, _⟩ := hA1.some'
 refine G.loop (ι := Nat × List Bool) (fun i => [(1, .p 0 0), (6, .v (.slice (some ⟨g, 0, none⟩) T.length T.length)), (88, .v (.slice xb R.length xd)), (89, .v (.int .i64 (R.length : Int))), (90, .v (.int .i64 (i.1 : Int)))])
  (fun _ => [(0, ⟨30, [.v (.slice xa T.length xc), .v (.slice xb R.length xd), .v (.slice xe F.length xf), .v (.int .i64 lab)]⟩)])
  (fun i u' m' => i.1 ≤ R.length ∧ i.2.length = T.length ∧ (∀ r ∈ R.take i.1, ∀ q ∈ r.2.1, i.2[q]? = some true) ∧ ArrAt PH.mt m' (.slice (some ⟨g, 0, none⟩) T.length T.length) 4 1 (i.2.map Value.bool)) (fun i => R.length - i.1) (0, List.replicate T.length false) (by kernel_rfl) (fun _ => by kernel_rfl) ⟨by kernel_rfl, by kernel_rfl, by kernel_rfl⟩
  ⟨by simp, by simp, by simp, by rw [List.map_replicate]; exact hA1⟩ ?_
 rintro J ⟨i, L⟩ hJ u2 m2 l2 ⟨hi2, hL, hall, hA2⟩
 simp only at hi2 hL hall hA2 hJ
 have le2 := l1.trans l2
 by_cases hlt2 : i < R.length
 ·refine G.lssT (i : Int) (R.length : Int) (by kernel_rfl) (by omega) ?_
  obtain ⟨q, hRi⟩ : ∃ q, R[i]? = some q := ⟨_, List.getElem?_eq_getElem hlt2⟩
  have hmem := List.mem_of_getElem? hRi
  have htk2 : R.take (i + 1) = R.take i ++ [q] := by rw [List.take_add_one, hRi]; rfl
  have hword := ok.rel.names.word q.1 (List.mem_map.2 ⟨q, hmem, rfl⟩)
  have hnx : (R.map (·.1))[i]? = some q.1 := by rw [List.getElem?_map, hRi]; rfl
  obtain ⟨ba, oa, rfl, ea⟩ := ListP.at' (hR.mono le2) (j := i) (e := relV q) (by simp [hRi])
  obtain ⟨qs, ql, qa, qc⟩ := q
  have hne : ql ≠ [] := ok.rel.ne _ hmem
  have hlq : ∀ p ∈ ql, p < T.length := ok.rel.lt _ hmem
  have hql : ql.length ≤ 1000 := ok.rel.len _ hmem
  have hasc : ∀ (k : Nat) x y, ql[k]? = some x → ql[k + 1]? = some y → x < y := ok.rel.asc _ hmem
  have hqat : ListP u2 (.slice qa ql.length qc) 1 (intsV ql) := (ok.rel.at' _ hmem).mono le2
  have hq0 : 0 < ql.length := List.length_pos_iff.2 hne
  simp only at hword hnx
  refine G.addr ba oa R.length xd i 2 (by kernel_rfl) hlt2 ?_
  refine G.loadU (some 2) ba (oa + i * 2) (.agg #[.string (mkS qs), .slice qa ql.length qc]) (by kernel_rfl) (by kernel_rfl) ea ?_
  refine G.call0 _ _ (by kernel_rfl) Tryz.call164 (refWord0 hword) ?_
  rintro v3 u3 l3 rfl
  refine G.loop (ι := Nat) (fun k => [(1, .p 0 0), (6, .v (.slice (some ⟨g, 0, none⟩) T.length T.length)), (7, .v (.int .i64 (i : Int))), (8, .p 19003 0), (9, .v (.int .i64 (k : Int))), (88, .v (.slice (some ⟨ba, oa, none⟩) R.length xd)), (89, .v (.int .i64 (R.length : Int))), (90, .v (.int .i64 (i : Int)))])
   (fun _ => [(0, ⟨30, [.v (.slice xa T.length xc), .v (.slice (some ⟨ba, oa, none⟩) R.length xd), .v (.slice xe F.length xf), .v (.int .i64 lab)]⟩), (19003, ⟨74, [.v (.string (mkS qs)), .v (.slice qa ql.length qc)]⟩)])
   (fun k u' m' => k ≤ i ∧ m' = m2) (fun k => i - k) 0 (by kernel_rfl) (fun _ => by kernel_rfl) ⟨by kernel_rfl, by kernel_rfl, by kernel_rfl⟩ ⟨by omega, rfl⟩ ?_
  rintro J2 k hJ2 u4 m4 l4 ⟨hk, rfl⟩
  by_cases hlk : k < i
  ·refine G.lssT (k : Int) (i : Int) (by kernel_rfl) (by omega) ?_
   obtain ⟨y, hTk⟩ : ∃ y, R[k]? = some y := ⟨_, List.getElem?_eq_getElem (by omega)⟩
   have hny : (R.map (·.1))[k]? = some y.1 := by rw [List.getElem?_map, hTk]; rfl
   have hne2 := names_at ok.rel.names.nodup hnx hny (by omega)
   obtain ⟨_, _, e', ek⟩ := ListP.at' (hR.mono ((le2.trans l3).trans l4)) (j := k) (e := relV y) (by simp [hTk])
   cases e'
   refine G.addr ba oa R.length xd k 2 (by kernel_rfl) (by omega) ?_
   refine G.fieldA 74 ba (oa + k * 2) 0 0 (by kernel_rfl) (by kernel_rfl) ?_
   refine G.loadU none ba (oa + k * 2 + 0) (.string (mkS y.1)) (by kernel_rfl) (by kernel_rfl) (ek.fld rfl rfl) ?_
   refine G.eqSF y.1 qs (by kernel_rfl) hne2 ?_
   refine G.add (k : Int) 1 ((k + 1 : Nat) : Int) (by kernel_rfl) (by omega) (by omega) (by omega) ?_
   exact G.back (by kernel_rfl) (hJ2 (k + 1) _ _ _ ⟨by kernel_rfl, by kernel_rfl, by kernel_rfl⟩ l4 ⟨by omega, rfl⟩ (by omega))
  obtain rfl : k = i := by omega
  refine G.lssF (k : Int) (k : Int) (by kernel_rfl) (by omega) ?_
  clear hJ2
  refine G.eqlF (ql.length : Int) 0 (by kernel_rfl) (by omega) ?_
  refine G.loop (ι := Nat × List Bool) (fun j => [(1, .p 0 0), (6, .v (.slice (some ⟨g, 0, none⟩) T.length T.length)), (8, .p 19003 0), (88, .v (.slice (some ⟨ba, oa, none⟩) R.length xd)), (89, .v (.int .i64 (R.length : Int))), (90, .v (.int .i64 (k : Int))), (118, .v (.slice qa ql.length qc)), (119, .v (.int .i64 (ql.length : Int))), (120, .v (.int .i64 (j.1 : Int)))])
   (fun _ => [(0, ⟨30, [.v (.slice xa T.length xc), .v (.slice (some ⟨ba, oa, none⟩) R.length xd), .v (.slice xe F.length xf), .v (.int .i64 lab)]⟩), (19003, ⟨74, [.v (.string (mkS qs)), .v (.slice qa ql.length qc)]⟩)])
   (fun j u' m' => j.1 ≤ ql.length ∧ j.2.length = T.length ∧ (∀ r ∈ R.take k, ∀ q ∈ r.2.1, j.2[q]? = some true) ∧ (∀ q ∈ ql.take j.1, j.2[q]? = some true) ∧ ArrAt PH.mt m' (.slice (some ⟨g, 0, none⟩) T.length T.length) 4 1 (j.2.map Value.bool)) (fun j => ql.length - j.1) (0, L) (by kernel_rfl) (fun _ => by kernel_rfl) ⟨by kernel_rfl, by kernel_rfl, by kernel_rfl⟩
   ⟨by simp, hL, hall, by simp, hA2⟩ ?_
  rintro J2 ⟨j, L2⟩ hJ2 u6 m6 l6 ⟨hj, hL2, hall2, hrow2, hA6⟩
  simp only at hj hL2 hall2 hrow2 hA6 hJ2
  have le6 := (l3.trans l4).trans l6
  have hqat6 := hqat.mono le6
  by_cases hltj : j < ql.length
  ·refine G.lssT (j : Int) (ql.length : Int) (by kernel_rfl) (by omega) ?_
   obtain ⟨p, hqj⟩ : ∃ p, ql[j]? = some p := ⟨_, List.getElem?_eq_getElem hltj⟩
   have hpn : p < T.length := hlq _ (List.mem_of_getElem? hqj)
   have htkj : ql.take (j + 1) = ql.take j ++ [p] := by rw [List.take_add_one, hqj]; rfl
   obtain ⟨bq, oq, rfl, eq⟩ := ListP.at' hqat6 (j := j) (e := .int .i64 (p : Int)) (by simp [intsV, hqj])
   refine G.addr bq oq ql.length qc j 1 (by kernel_rfl) hltj ?_
   refine G.loadU none bq (oq + j * 1) (.int .i64 (p : Int)) (by kernel_rfl) (by kernel_rfl) eq ?_
   refine G.lssF (p : Int) 0 (by kernel_rfl) (by omega) ?_
   refine G.geqF (p : Int) (T.length : Int) (by kernel_rfl) (by omega) ?_
   refine G.addr g 0 T.length T.length p 1 (by kernel_rfl) hpn ?_
   refine G.storeA 1 PH.mt (L2.map Value.bool) g T.length T.length p (.bool true) (by kernel_rfl) hA6 (by rw [List.length_map]; omega) rfl rfl ?_
   intro m7 hA7
   rw [map_bool_set] at hA7
   refine G.add (j : Int) 1 ((j + 1 : Nat) : Int) (by kernel_rfl) (by omega) (by omega) (by omega) ?_
   have hkeep : ∀ q, L2[q]? = some true → (L2.set p true)[q]? = some true := fun q hq => by
    rw [List.getElem?_set]
    split
    ·subst_vars; rw [if_pos (by omega)]
    ·exact hq
   exact G.back (by kernel_rfl) (hJ2 (j + 1, L2.set p true) _ _ _ ⟨by kernel_rfl, by kernel_rfl, by kernel_rfl⟩ l6 ⟨by dsimp only; omega, by simp [hL2], fun r hr q hq => hkeep q (hall2 r hr q hq), by
    intro q hq
    dsimp only at hq ⊢
    rw [htkj, List.mem_append, List.mem_singleton] at hq
    rcases hq with hq | rfl
    ·exact hkeep q (hrow2 q hq)
    ·rw [List.getElem?_set]; simp; omega, hA7⟩ (by dsimp only; omega))
  obtain rfl : j = ql.length := by omega
  refine G.lssF (ql.length : Int) (ql.length : Int) (by kernel_rfl) (by omega) ?_
  clear hJ2
  rw [List.take_length] at hrow2
  refine G.loop (ι := Nat) (fun j => [(1, .p 0 0), (6, .v (.slice (some ⟨g, 0, none⟩) T.length T.length)), (8, .p 19003 0), (12, .v (.int .i64 ((j + 1 : Nat) : Int))), (88, .v (.slice (some ⟨ba, oa, none⟩) R.length xd)), (89, .v (.int .i64 (R.length : Int))), (90, .v (.int .i64 (k : Int)))])
   (fun _ => [(0, ⟨30, [.v (.slice xa T.length xc), .v (.slice (some ⟨ba, oa, none⟩) R.length xd), .v (.slice xe F.length xf), .v (.int .i64 lab)]⟩), (19003, ⟨74, [.v (.string (mkS qs)), .v (.slice qa ql.length qc)]⟩)])
   (fun j u' m' => j + 1 ≤ ql.length ∧ m' = m6) (fun j => ql.length - j) 0 (by kernel_rfl) (fun _ => by kernel_rfl) ⟨by kernel_rfl, by kernel_rfl, by kernel_rfl⟩
   ⟨by omega, rfl⟩ ?_
  rintro J3 j hJ3 u8 m8 l8 ⟨hj3, rfl⟩
  have hqat8 := hqat6.mono l8
  by_cases hltk : j + 1 < ql.length
  ·refine G.lssT ((j + 1 : Nat) : Int) (ql.length : Int) (by kernel_rfl) (by omega) ?_
   obtain ⟨p1, hq1⟩ : ∃ p, ql[j]? = some p := ⟨_, List.getElem?_eq_getElem (by omega)⟩
   obtain ⟨p2, hq2⟩ : ∃ p, ql[j + 1]? = some p := ⟨_, List.getElem?_eq_getElem hltk⟩
   have hlt3 := hasc j _ _ hq1 hq2
   obtain ⟨bq, oq, rfl, eq2⟩ := ListP.at' hqat8 (j := j + 1) (e := .int .i64 (p2 : Int)) (by simp [intsV, hq2])
   obtain ⟨_, _, e', eq1⟩ := ListP.at' hqat8 (j := j) (e := .int .i64 (p1 : Int)) (by simp [intsV, hq1])
   cases e'
   refine G.addr bq oq ql.length qc (j + 1) 1 (by kernel_rfl) hltk ?_
   refine G.loadU none bq (oq + (j + 1) * 1) (.int .i64 (p2 : Int)) (by kernel_rfl) (by kernel_rfl) eq2 ?_
   refine G.sub ((j + 1 : Nat) : Int) 1 (j : Int) (by kernel_rfl) (by omega) (by omega) (by omega) ?_
   refine G.addr bq oq ql.length qc j 1 (by kernel_rfl) (by omega) ?_
   refine G.loadU none bq (oq + j * 1) (.int .i64 (p1 : Int)) (by kernel_rfl) (by kernel_rfl) eq1 ?_
   refine G.leqF (p2 : Int) (p1 : Int) (by kernel_rfl) (by omega) ?_
   refine G.add ((j + 1 : Nat) : Int) 1 ((j + 1 + 1 : Nat) : Int) (by kernel_rfl) (by omega) (by omega) (by omega) ?_
   exact G.back (by kernel_rfl) (hJ3 (j + 1) _ _ _ ⟨by kernel_rfl, by kernel_rfl, by kernel_rfl⟩ l8 ⟨by omega, rfl⟩ (by omega))
  ·refine G.lssF ((j + 1 : Nat) : Int) (ql.length : Int) (by kernel_rfl) (by omega) ?_
   refine G.add (k : Int) 1 ((k + 1 : Nat) : Int) (by kernel_rfl) (by omega) (by omega) (by omega) ?_
   exact G.back (by kernel_rfl) (hJ (k + 1, L2) _ _ _ ⟨by kernel_rfl, by kernel_rfl, by kernel_rfl⟩ ((l2.trans le6).trans l8) ⟨by dsimp only; omega, hL2, by
    intro r hr q hq
    dsimp only at hr hq ⊢
    rw [htk2, List.mem_append, List.mem_singleton] at hr
    rcases hr with hr | rfl
    ·exact hall2 r hr q hq
    ·exact hrow2 q hq, hA6⟩ (by dsimp only; omega))
 obtain rfl : i = R.length := by omega
 refine G.lssF (R.length : Int) (R.length : Int) (by kernel_rfl) (by omega) ?_
 clear hJ
 rw [List.take_length] at hall
 refine G.loop (ι := Nat) (fun i => [(1, .p 0 0), (6, .v (.slice (some ⟨g, 0, none⟩) T.length T.length)), (156, .v (.slice (some ⟨g, 0, none⟩) T.length T.length)), (157, .v (.int .i64 (T.length : Int))), (158, .v (.int .i64 (i : Int)))])
  (fun _ => [(0, ⟨30, [.v (.slice xa T.length xc), .v (.slice xb R.length xd), .v (.slice xe F.length xf), .v (.int .i64 lab)]⟩)])
  (fun i u' m' => i ≤ T.length ∧ m' = m2) (fun i => T.length - i) 0 (by kernel_rfl) (fun _ => by kernel_rfl) ⟨by kernel_rfl, by kernel_rfl, by kernel_rfl⟩ ⟨by omega, rfl⟩ ?_
 rintro J i hJ u3 m3 l3 ⟨hi3, rfl⟩
 by_cases hlt3 : i < T.length
 ·refine G.lssT (i : Int) (T.length : Int) (by kernel_rfl) (by omega) ?_
  have hLi : L[i]? = some true := by
   obtain ⟨r, hr, hq⟩ := ok.rel.all i hlt3
   exact hall r hr i hq
  refine G.addr g 0 T.length T.length i 1 (by kernel_rfl) hlt3 ?_
  refine G.loadM none g (0 + i * 1) (.bool true) (by kernel_rfl) (by kernel_rfl) (hA2.el (by rw [List.getElem?_map, hLi]; rfl)) ?_
  refine G.add (i : Int) 1 ((i + 1 : Nat) : Int) (by kernel_rfl) (by omega) (by omega) (by omega) ?_
  exact G.back (by kernel_rfl) (hJ (i + 1) _ _ _ ⟨by kernel_rfl, by kernel_rfl, by kernel_rfl⟩ l3 ⟨by omega, rfl⟩ (by omega))
 obtain rfl : i = T.length := by omega
 refine G.lssF (T.length : Int) (T.length : Int) (by kernel_rfl) (by omega) ?_
 clear hJ
 have le3 := le2.trans l3
 refine G.loop (ι := Nat) (fun i => [(1, .p 0 0), (6, .v (.slice (some ⟨g, 0, none⟩) T.length T.length)), (166, .v (.slice xe F.length xf)), (167, .v (.int .i64 (F.length : Int))), (168, .v (.int .i64 (i : Int)))])
  (fun _ => [(0, ⟨30, [.v (.slice xa T.length xc), .v (.slice xb R.length xd), .v (.slice xe F.length xf), .v (.int .i64 lab)]⟩)])
  (fun i u' m' => i ≤ F.length ∧ m' = m3) (fun i => F.length - i) 0 (by kernel_rfl) (fun _ => by kernel_rfl) ⟨by kernel_rfl, by kernel_rfl, by kernel_rfl⟩ ⟨by omega, rfl⟩ ?_
 rintro J i hJ u4 m4 l4 ⟨hi4, rfl⟩
 have le4 := le3.trans l4
 by_cases hlt4 : i < F.length
 ·refine G.lssT (i : Int) (F.length : Int) (by kernel_rfl) (by omega) ?_
  obtain ⟨f, hFi⟩ : ∃ f, F[i]? = some f := ⟨_, List.getElem?_eq_getElem hlt4⟩
  have hfm := List.mem_of_getElem? hFi
  obtain ⟨fn, fk, hfk, hkind, hfl⟩ := ok.feat.ok f hfm
  obtain ⟨hf1, _⟩ := List.getElem?_eq_some_iff.1 hfk
  have hnx : (F.map (·.1))[i]? = some f.1 := by rw [List.getElem?_map, hFi]; rfl
  obtain ⟨fb, fo, rfl, ef⟩ := ListP.at' (hF.mono le4) (j := i) (e := featV f) (by simp [hFi])
  obtain ⟨ab, ao, rfl, ea⟩ := ListP.at' (hT.mono le4) (j := f.1) (e := attV (fn, fk)) (by simp [hfk])
  obtain ⟨p1, p2, p3⟩ := f
  simp only at hkind hfl hf1 hnx ea
  refine G.addr fb fo F.length xf i 3 (by kernel_rfl) hlt4 ?_
  refine G.loadU (some 3) fb (fo + i * 3) (.agg #[.int .i64 (p1 : Int), .int .i64 (p2 : Int), .int .i64 (p3 : Int)]) (by kernel_rfl) (by kernel_rfl) ef ?_
  refine G.lssF (p1 : Int) 0 (by kernel_rfl) (by omega) ?_
  refine G.geqF (p1 : Int) (T.length : Int) (by kernel_rfl) (by omega) ?_
  refine G.joinF (ι := Unit) (fun st => pastI Tryz.prog (path Tryz.prog st [.bool false, .bool true, .bool true, undef, undef, undef, .bool true])) (fun _ => [(1, .p 0 0), (6, .v (.slice (some ⟨g, 0, none⟩) T.length T.length)), (15, .v (.int .i64 (i : Int))), (16, .p 50003 0), (166, .v (.slice (some ⟨fb, fo, none⟩) F.length xf)), (167, .v (.int .i64 (F.length : Int))), (168, .v (.int .i64 (i : Int)))])
   (fun _ => [(0, ⟨30, [.v (.slice (some ⟨ab, ao, none⟩) T.length xc), .v (.slice xb R.length xd), .v (.slice (some ⟨fb, fo, none⟩) F.length xf), .v (.int .i64 lab)]⟩), (50003, ⟨64, [.v (.int .i64 (p1 : Int)), .v (.int .i64 (p2 : Int)), .v (.int .i64 (p3 : Int))]⟩)])
   (fun _ u' m' => u' = u4 ∧ m' = m4) (fun _ => by kernel_rfl) (by kernel_rfl) ?tail ?way
  case way =>
   intro hjoin
   rcases hkind with ⟨rfl, rfl, hp3⟩ | ⟨rfl, rfl, rfl⟩
   ·refine G.eqlT ((1 : Nat) : Int) 1 (by kernel_rfl) (by omega) ?_
    rcases (by omega : p3 = 0 ∨ p3 = 1) with rfl | rfl
    ·refine G.eqlT ((0 : Nat) : Int) 0 (by kernel_rfl) (by omega) ?_
     refine G.addr ab ao T.length xc p1 2 (by kernel_rfl) hf1 ?_
     refine G.fieldA 61 ab (ao + p1 * 2) 1 1 (by kernel_rfl) (by kernel_rfl) ?_
     refine G.loadU none ab (ao + p1 * 2 + 1) (.int .i64 ((2 : Nat) : Int)) (by kernel_rfl) (by kernel_rfl) (elP_att2 ea) ?_
     refine G.eqlT ((2 : Nat) : Int) 2 (by kernel_rfl) (by omega) ?_
     refine G.eqlF ((1 : Nat) : Int) 2 (by kernel_rfl) (by omega) ?_
     refine G.pastI ?_
     exact hjoin () _ _ _ (by kernel_rfl) ⟨by kernel_rfl, by kernel_rfl, by kernel_rfl⟩ (PH.le_refl _) ⟨rfl, rfl⟩
    ·refine G.eqlF ((1 : Nat) : Int) 0 (by kernel_rfl) (by omega) ?_
     refine G.eqlT ((1 : Nat) : Int) 1 (by kernel_rfl) (by omega) ?_
     refine G.addr ab ao T.length xc p1 2 (by kernel_rfl) hf1 ?_
     refine G.fieldA 61 ab (ao + p1 * 2) 1 1 (by kernel_rfl) (by kernel_rfl) ?_
     refine G.loadU none ab (ao + p1 * 2 + 1) (.int .i64 ((2 : Nat) : Int)) (by kernel_rfl) (by kernel_rfl) (elP_att2 ea) ?_
     refine G.eqlT ((2 : Nat) : Int) 2 (by kernel_rfl) (by omega) ?_
     refine G.eqlF ((1 : Nat) : Int) 2 (by kernel_rfl) (by omega) ?_
     refine G.pastI ?_
     exact hjoin () _ _ _ (by kernel_rfl) ⟨by kernel_rfl, by kernel_rfl, by kernel_rfl⟩ (PH.le_refl _) ⟨rfl, rfl⟩
   ·refine G.eqlF ((2 : Nat) : Int) 1 (by kernel_rfl) (by omega) ?_
    refine G.eqlT ((2 : Nat) : Int) 2 (by kernel_rfl) (by omega) ?_
    refine G.eqlT ((0 : Nat) : Int) 0 (by kernel_rfl) (by omega) ?_
    refine G.addr ab ao T.length xc p1 2 (by kernel_rfl) hf1 ?_
    refine G.fieldA 61 ab (ao + p1 * 2) 1 1 (by kernel_rfl) (by kernel_rfl) ?_
    refine G.loadU none ab (ao + p1 * 2 + 1) (.int .i64 ((3 : Nat) : Int)) (by kernel_rfl) (by kernel_rfl) (elP_att2 ea) ?_
    refine G.eqlT ((3 : Nat) : Int) 3 (by kernel_rfl) (by omega) ?_
    refine G.pastI ?_
    exact hjoin () _ _ _ (by kernel_rfl) ⟨by kernel_rfl, by kernel_rfl, by kernel_rfl⟩ (PH.le_refl _) ⟨rfl, rfl⟩
  rintro _ u5 m5 _ ⟨rfl, rfl⟩
  refine G.loop (ι := Nat) (fun k => [(1, .p 0 0), (6, .v (.slice (some ⟨g, 0, none⟩) T.length T.length)), (15, .v (.int .i64 (i : Int))), (16, .p 50003 0), (19, .v (.int .i64 (k : Int))), (166, .v (.slice (some ⟨fb, fo, none⟩) F.length xf)), (167, .v (.int .i64 (F.length : Int))), (168, .v (.int .i64 (i : Int)))])
   (fun _ => [(0, ⟨30, [.v (.slice (some ⟨ab, ao, none⟩) T.length xc), .v (.slice xb R.length xd), .v (.slice (some ⟨fb, fo, none⟩) F.length xf), .v (.int .i64 lab)]⟩), (50003, ⟨64, [.v (.int .i64 (p1 : Int)), .v (.int .i64 (p2 : Int)), .v (.int .i64 (p3 : Int))]⟩)])
   (fun k u' m' => k ≤ i ∧ m' = m5) (fun k => i - k) 0 (by kernel_rfl) (fun _ => by kernel_rfl) ⟨by kernel_rfl, by kernel_rfl, by kernel_rfl⟩ ⟨by omega, rfl⟩ ?_
  rintro J2 k hJ2 u6 m6 l6 ⟨hk, rfl⟩
  by_cases hlk : k < i
  ·refine G.lssT (k : Int) (i : Int) (by kernel_rfl) (by omega) ?_
   obtain ⟨y, hFk⟩ : ∃ y, F[k]? = some y := ⟨_, List.getElem?_eq_getElem (by omega)⟩
   have hny : (F.map (·.1))[k]? = some y.1 := by rw [List.getElem?_map, hFk]; rfl
   have hne : y.1 ≠ p1 := fun e => Nat.ne_of_lt hlk (nodup_at ok.feat.nodup hny (by rw [hnx, e]))
   obtain ⟨_, _, e', ek⟩ := ListP.at' (hF.mono (le4.trans l6)) (j := k) (e := featV y) (by simp [hFk])
   cases e'
   refine G.addr fb fo F.length xf k 3 (by kernel_rfl) (by omega) ?_
   refine G.fieldA 64 fb (fo + k * 3) 0 0 (by kernel_rfl) (by kernel_rfl) ?_
   refine G.loadU none fb (fo + k * 3 + 0) (.int .i64 (y.1 : Int)) (by kernel_rfl) (by kernel_rfl) (ek.fld rfl rfl) ?_
   refine G.eqlF (y.1 : Int) (p1 : Int) (by kernel_rfl) (by omega) ?_
   refine G.add (k : Int) 1 ((k + 1 : Nat) : Int) (by kernel_rfl) (by omega) (by omega) (by omega) ?_
   exact G.back (by kernel_rfl) (hJ2 (k + 1) _ _ _ ⟨by kernel_rfl, by kernel_rfl, by kernel_rfl⟩ l6 ⟨by omega, rfl⟩ (by omega))
  ·obtain rfl : k = i := by omega
   refine G.lssF (k : Int) (k : Int) (by kernel_rfl) (by omega) ?_
   refine G.eqlF (p1 : Int) lab (by kernel_rfl) hfl ?_
   refine G.add (k : Int) 1 ((k + 1 : Nat) : Int) (by kernel_rfl) (by omega) (by omega) (by omega) ?_
   exact G.back (by kernel_rfl) (hJ (k + 1) _ _ _ ⟨by kernel_rfl, by kernel_rfl, by kernel_rfl⟩ (l4.trans l6) ⟨by omega, rfl⟩ (by omega))
 obtain rfl : i = F.length := by omega
 refine G.lssF (F.length : Int) (F.length : Int) (by kernel_rfl) (by omega) ?_
 refine G.drop PH.mt (by kernel_rfl) (PH.mt_le _) ?_
 refine G.lssF lab (-1) (by kernel_rfl) (by omega) ?_
 refine G.geqF lab (T.length : Int) (by kernel_rfl) (by omega) ?_
 rcases Int.lt_or_le lab 0 with hneg | hge
 ·refine G.geqF lab 0 (by kernel_rfl) (by omega) ?_
  exact G.ret (.int .i64 0) (by kernel_rfl) ⟨rfl, rfl⟩
 ·refine G.geqT lab 0 (by kernel_rfl) (by omega) ?_
  obtain ⟨l, rfl⟩ : ∃ l : Nat, lab = (l : Int) := ⟨lab.toNat, by omega⟩
  obtain ⟨n, hn⟩ := ok.l2 l rfl
  obtain ⟨bb, ob, rfl, eb⟩ := ListP.at' (hT.mono le4) (j := l) (e := attV (n, 2)) (by simp [hn])
  refine G.addr bb ob T.length xc l 2 (by kernel_rfl) (by omega) ?_
  refine G.fieldA 61 bb (ob + l * 2) 1 1 (by kernel_rfl) (by kernel_rfl) ?_
  refine G.loadU none bb (ob + l * 2 + 1) (.int .i64 ((2 : Nat) : Int)) (by kernel_rfl) (by kernel_rfl) (elP_att2 eb) ?_
  refine G.neqF ((2 : Nat) : Int) 2 (by kernel_rfl) (by omega) ?_
  exact G.ret (.int .i64 0) (by kernel_rfl) ⟨rfl, rfl⟩
end Go.Proofs.YtpdboaedoimahaaGreatDoor
end
section
set_option linter.unusedSectionVars false
set_option linter.unusedVariables false
namespace Go.Proofs.YtpdboaedoimahaaGreatDoor
open Go.RowKit Go.MapKept
theorem drop_at {l : List Nat} {i : Nat} (h : i < l.length) : l.drop i = l.getD i 0 :: l.drop (i + 1) := by
 rw [List.drop_eq_getElem_cons h]
 simp [List.getD_eq_getElem?_getD, List.getElem?_eq_getElem h]
theorem val_drop_le (l : List Nat) : ∀ k, val (l.drop k) ≤ val l := by
 induction l with
 | nil => intro k; simp
 | cons a l ih =>
  intro k
  cases k with
  | zero => simp
  | succ k =>
   have := ih k
   simp only [List.drop_succ_cons, val]
   omega
set_option maxHeartbeats 2000000 in
theorem refSmall0 {u : PH} {z : Int} (hz : z.natAbs < 1000000000000000000) : Fn0 Tryz.prog 165 [.string (mkS (Lib.itoa z))] u fun v _ => v = .tuple #[.int .i64 z, .bool true] := by
 have hd := small_dig hz
 refine Fn0.of Tryz.func165 (by kernel_rfl) (by kernel_rfl) ?_
 refine G.call0 _ _ (by kernel_rfl) Tryz.call167 (bigValid0 hd) ?_
 rintro v1 u1 l1 rfl
 refine G.call0 _ _ (by kernel_rfl) Tryz.call118 (bigReadT hd) ?_
 intro v2 u2 l2 k2
 obtain ⟨b, a, n, c, rfl, hb, hi⟩ := k2.opn
 obtain ⟨rfl, hc⟩ := hi.len
 refine G.call0 _ _ (by kernel_rfl) Tryz.call119 (bigOf0 (n := 4611686018427387904) (by omega) (by omega)) ?_
 intro v3 u3 l3 k3
 obtain ⟨b', a', n', c', rfl, hb', hi'⟩ := k3.opn
 obtain ⟨rfl, hc'⟩ := hi'.len
 have hnl : nl z.natAbs ≤ 400 := nl_of_dig hd
 have hnl2 : nl (4611686018427387904 : Int).natAbs ≤ 400 := nl_of_dig (by decide +kernel)
 refine G.call0 _ _ (by kernel_rfl) Tryz.call202 (bigSize0 (hi.mono l3) hi' (by omega) (by omega)) ?_
 rintro v4 u4 l4 rfl
 have hs : sgn (((z.natAbs : Nat) : Int) - (((4611686018427387904 : Int).natAbs : Nat) : Int)) ≤ 0 := by
  unfold sgn
  have : ((4611686018427387904 : Int).natAbs : Int) = 4611686018427387904 := by decide
  split
  ·omega
  ·split <;> omega
 refine G.gtrF (sgn (((z.natAbs : Nat) : Int) - (((4611686018427387904 : Int).natAbs : Nat) : Int))) 0 (by kernel_rfl) (by omega) ?_
 have hnl' : (limbs z.natAbs).length ≤ 400 := hnl
 refine G.sub ((limbs z.natAbs).length : Int) 1 ((limbs z.natAbs).length - 1 : Int) (by kernel_rfl) (by omega) (by omega) (by omega) ?_
 refine G.loop (ι := Int × Nat) (fun i => [(4, .p 3002 0), (6, .v (.int .i64 (i.2 : Int))), (7, .v (.int .i64 i.1))]) (fun _ => [(3002, ⟨122, [.v (.bool b), .v (.slice a (limbs z.natAbs).length c)]⟩)])
  (fun i u' m' => -1 ≤ i.1 ∧ i.1 < (limbs z.natAbs).length ∧ i.2 = val ((limbs z.natAbs).drop (i.1 + 1).toNat) ∧ m' = PH.mt) (fun i => (i.1 + 1).toNat) (((limbs z.natAbs).length - 1 : Int), 0) (by kernel_rfl) (fun _ => by kernel_rfl) ⟨by kernel_rfl, by kernel_rfl, by kernel_rfl⟩ ⟨by dsimp only; omega, by dsimp only; omega, by
   dsimp only
   rw [show (((limbs z.natAbs).length : Int) - 1 + 1).toNat = (limbs z.natAbs).length by omega, List.drop_length]; rfl, rfl⟩ ?_
 rintro J ⟨i, s⟩ hJ u5 m5 l5 ⟨h1, h2, hsv, rfl⟩
 simp only at h1 h2 hsv hJ
 have hvz := val_limbs z.natAbs
 by_cases hi0 : 0 ≤ i
 ·obtain ⟨k, rfl⟩ : ∃ k : Nat, i = (k : Int) := ⟨i.toNat, by omega⟩
  have hkl : k < (limbs z.natAbs).length := by omega
  rw [show ((k : Int) + 1).toNat = k + 1 by omega] at hsv
  have hdr := drop_at hkl
  have hle := val_drop_le (limbs z.natAbs) k
  rw [hvz, hdr] at hle
  simp only [val] at hle
  rw [← hsv] at hle
  refine G.geqT (k : Int) 0 (by kernel_rfl) (by omega) ?_
  refine G.mul (s : Int) 1000000000 ((s * 1000000000 : Nat) : Int) (by kernel_rfl) (by omega) (by omega) (by omega) ?_
  obtain ⟨bb, off, rfl, e⟩ := (hi.mono ((l3.trans l4).trans l5)).at hkl
  refine G.addr bb off (limbs z.natAbs).length c k 1 (by kernel_rfl) hkl ?_
  refine G.loadU none bb (off + k * 1) (.int .i64 ((limbs z.natAbs).getD k 0 : Nat)) (by kernel_rfl) (by kernel_rfl) e ?_
  generalize hg : (limbs z.natAbs).getD k 0 = d at hdr hle
  refine G.add ((s * 1000000000 : Nat) : Int) (d : Int) ((s * 1000000000 + d : Nat) : Int) (by kernel_rfl) (by omega) (by omega) (by omega) ?_
  refine G.sub (k : Int) 1 ((k : Int) - 1) (by kernel_rfl) (by omega) (by omega) (by omega) ?_
  exact G.back (by kernel_rfl) (hJ ((k : Int) - 1, s * 1000000000 + d) _ _ _ ⟨by kernel_rfl, by kernel_rfl, by kernel_rfl⟩ l5 ⟨by dsimp only; omega, by dsimp only; omega, by
   dsimp only
   rw [show ((k : Int) - 1 + 1).toNat = k by omega, hdr]
   simp only [val]
   rw [← hsv]; omega, rfl⟩ (by dsimp only; omega))
 ·obtain rfl : i = -1 := by omega
  refine G.geqF (-1) 0 (by kernel_rfl) (by omega) ?_
  have hs2 : s = z.natAbs := by rw [hsv, show ((-1 : Int) + 1).toNat = 0 by decide, List.drop_zero, hvz]
  subst hs2
  cases b with
  | true =>
   have hneg : z < 0 := by simpa using hb.symm
   refine G.neg ((z.natAbs : Nat) : Int) z (by kernel_rfl) (by omega) (by omega) (by omega) ?_
   exact G.ret (.tuple #[.int .i64 z, .bool true]) (by kernel_rfl) ⟨rfl, rfl⟩
  | false =>
   have hnn : ¬ z < 0 := by simpa using hb.symm
   have hzz : ((z.natAbs : Nat) : Int) = z := by omega
   refine G.ret (.tuple #[.int .i64 ((z.natAbs : Nat) : Int), .bool true]) (by kernel_rfl) ⟨rfl, by rw [hzz]⟩
theorem ratT_z (z : Int) : ratT (z : Rat) = Lib.itoa z := by
 unfold ratT; simp
set_option maxHeartbeats 2000000 in
theorem refValue0 {u : PH} {x : List UInt8 × Nat} {t : List UInt8} (h1 : 1 ≤ x.2) (h3 : x.2 ≤ 3) (hv : ValOK x.2 t) : Fn0 Tryz.prog 104 [attV x, .string (mkS t)] u fun v _ => v = .bool true := by
 obtain ⟨s, k⟩ := x
 simp only at h1 h3 hv
 refine Fn0.of Tryz.func104 (by kernel_rfl) (by kernel_rfl) ?_
 refine G.lssF (k : Int) 1 (by kernel_rfl) (by omega) ?_
 refine G.gtrF (k : Int) 3 (by kernel_rfl) (by omega) ?_
 by_cases ht : t = []
 ·refine G.eqST t [] (by kernel_rfl) ht ?_
  exact G.ret (.bool true) (by kernel_rfl) ⟨rfl, rfl⟩
 refine G.eqSF t [] (by kernel_rfl) ht ?_
 rcases hv with e | ⟨rfl, hw⟩ | ⟨rfl, z, hz, rfl⟩ | ⟨rfl, q, hq, rfl⟩
 ·exact absurd e ht
 ·refine G.eqlT ((3 : Nat) : Int) 3 (by kernel_rfl) (by omega) ?_
  refine G.call0 _ _ (by kernel_rfl) Tryz.call164 (refWord0 hw) ?_
  rintro v1 u1 l1 rfl
  exact G.ret (.bool true) (by kernel_rfl) ⟨rfl, rfl⟩
 ·refine G.eqlF ((1 : Nat) : Int) 3 (by kernel_rfl) (by omega) ?_
  have hp := refParts0 (u := u) (q := (z : Rat)) ⟨small_dig (by simpa using (by omega : z.natAbs < 1000000000000000000)), by simp; decide +kernel⟩
  rw [ratT_z] at hp
  simp only [Rat.num_intCast, Rat.den_intCast] at hp
  refine G.call0 _ _ (by kernel_rfl) Tryz.call112 hp ?_
  rintro v1 u1 l1 rfl
  refine G.eqlT ((1 : Nat) : Int) 1 (by kernel_rfl) (by omega) ?_
  refine G.neSF (Lib.itoa ((1 : Nat) : Int)) [49] (by kernel_rfl) (by decide +kernel) ?_
  refine G.call0 _ _ (by kernel_rfl) Tryz.call165 (refSmall0 (z := z) (by omega)) ?_
  rintro v2 u2 l2 rfl
  refine G.call0 _ _ (by kernel_rfl) Tryz.call165 (refSmall0 (z := ((1 : Nat) : Int)) (by omega)) ?_
  rintro v3 u3 l3 rfl
  refine G.geqT z (-1000000000) (by kernel_rfl) (by omega) ?_
  refine G.leqT z 1000000000 (by kernel_rfl) (by omega) ?_
  refine G.leqT ((1 : Nat) : Int) 12 (by kernel_rfl) (by omega) ?_
  exact G.ret (.bool true) (by kernel_rfl) ⟨rfl, rfl⟩
 ·have hdt := hq.dat
  have hn := hdt.num
  have hdn := hdt.den
  refine G.eqlF ((2 : Nat) : Int) 3 (by kernel_rfl) (by omega) ?_
  refine G.call0 _ _ (by kernel_rfl) Tryz.call112 (refParts0 hdt.tx) ?_
  rintro v1 u1 l1 rfl
  refine G.eqlF ((2 : Nat) : Int) 1 (by kernel_rfl) (by omega) ?_
  refine G.call0 _ _ (by kernel_rfl) Tryz.call165 (refSmall0 (z := q.num) (by omega)) ?_
  rintro v2 u2 l2 rfl
  refine G.call0 _ _ (by kernel_rfl) Tryz.call165 (refSmall0 (z := (q.den : Int)) (by omega)) ?_
  rintro v3 u3 l3 rfl
  refine G.geqT q.num (-1000000000) (by kernel_rfl) (by omega) ?_
  refine G.leqT q.num 1000000000 (by kernel_rfl) (by omega) ?_
  refine G.leqT (q.den : Int) 12 (by kernel_rfl) (by omega) ?_
  exact G.ret (.bool true) (by kernel_rfl) ⟨rfl, rfl⟩
set_option maxHeartbeats 1000000 in
theorem refTuple0 {u : PH} {v tv : Value} {T : List (List UInt8 × Nat)} {R : List SRel} {F : List Feat} {lab : Int} {ss : List (List UInt8)} (h : TupP u v tv T R F lab ss) :
  Fn0 Tryz.prog 52 [v, tv] u fun r _ => r = .int .i64 0 := by
 have hck := fun (u' : PH) (l : PH.le u u') => refCheck0 (h.sch.mono l) (h.ok.mono l)
 obtain ⟨⟨xa, xc, xb, xd, xe, xf, rfl, hTL, hRL, hFL⟩, ok, hS, hT⟩ := h
 obtain ⟨ya, yc, rfl⟩ := hS.opn
 rw [List.length_map] at hS ⊢
 have hlen := hT.len
 have t2 := ok.t2
 refine Fn0.of Tryz.func52 (by kernel_rfl) (by kernel_rfl) ?_
 refine G.call0 _ _ (by kernel_rfl) Tryz.call103 (hck u (PH.le_refl _)) ?_
 rintro v1 u1 l1 rfl
 refine G.neqF 0 0 (by kernel_rfl) (by omega) ?_
 refine G.neqF (ss.length : Int) (T.length : Int) (by kernel_rfl) (by omega) ?_
 refine G.loop (ι := Nat) (fun i => [(2, .p 0 0), (19, .v (.slice ya ss.length yc)), (20, .v (.int .i64 (ss.length : Int))), (21, .v (.int .i64 (i : Int)))])
  (fun _ => [(0, ⟨30, [.v (.slice xa T.length xc), .v (.slice xb R.length xd), .v (.slice xe F.length xf), .v (.int .i64 lab)]⟩)])
  (fun i u' m' => i ≤ ss.length ∧ m' = PH.mt) (fun i => ss.length - i) 0 (by kernel_rfl) (fun _ => by kernel_rfl) ⟨by kernel_rfl, by kernel_rfl, by kernel_rfl⟩ ⟨by omega, rfl⟩ ?_
 rintro J i hJ u2 m2 l2 ⟨hi, rfl⟩
 have le2 := l1.trans l2
 by_cases hlt : i < ss.length
 ·refine G.lssT (i : Int) (ss.length : Int) (by kernel_rfl) (by omega) ?_
  obtain ⟨b, off, rfl, e⟩ := text_at (hS.mono le2) hlt
  refine G.addr b off ss.length yc i 1 (by kernel_rfl) hlt ?_
  refine G.loadU none b (off + i * 1) (.string (mkS (ss.getD i []))) (by kernel_rfl) (by kernel_rfl) e ?_
  have hTi : T[i]? = some T[i] := List.getElem?_eq_getElem (by omega)
  have hk := ok.att.kind T[i] (List.getElem_mem (by omega))
  have hv := hT.val i _ _ hTi (List.getElem?_eq_getElem hlt)
  rw [show ss[i] = ss.getD i [] by simp [List.getD_eq_getElem?_getD, List.getElem?_eq_getElem hlt]] at hv
  obtain ⟨ba, oa, rfl, ea⟩ := ListP.at' (hTL.mono le2) (j := i) (e := attV T[i]) (by simp [hTi])
  generalize T[i] = x at hTi hk hv ea
  refine G.addr ba oa T.length xc i 2 (by kernel_rfl) (by omega) ?_
  refine G.loadU (some 2) ba (oa + i * 2) (attV x) (by kernel_rfl) (by kernel_rfl) ea ?_
  refine G.call0 _ _ (by kernel_rfl) Tryz.call104 (refValue0 hk.1 hk.2 hv) ?_
  rintro v3 u3 l3 rfl
  refine G.add (i : Int) 1 ((i + 1 : Nat) : Int) (by kernel_rfl) (by omega) (by omega) (by omega) ?_
  exact G.back (by kernel_rfl) (hJ (i + 1) _ _ _ ⟨by kernel_rfl, by kernel_rfl, by kernel_rfl⟩ (l2.trans l3) ⟨by omega, rfl⟩ (by omega))
 ·obtain rfl : i = ss.length := by omega
  refine G.lssF (ss.length : Int) (ss.length : Int) (by kernel_rfl) (by omega) ?_
  exact G.ret (.int .i64 0) (by kernel_rfl) ⟨rfl, rfl⟩
end Go.Proofs.YtpdboaedoimahaaGreatDoor
end
section
set_option linter.unusedSectionVars false
set_option linter.unusedVariables false
namespace Go.Proofs.YtpdboaedoimahaaGreatDoor
open Go.RowKit Go.MapKept
def FulI (u m : PH) (v : Value) (F : CF) (N : Nat) : Prop :=
 ∃ b a n c b' a' n' c' g1 g2 o1 o2, v = .agg #[.bool b, .slice a n c, .bool b', .slice a' n' c', .map (some g1), .map (some g2)] ∧ QP u (.agg #[.bool b, .slice a n c, .bool b', .slice a' n' c']) F.c ∧ (u g1 = some o1 ∨ m g1 = some o1) ∧ (u g2 = some o2 ∨ m g2 = some o2) ∧ MapF parV KT u o1 F.s N ∧ MapF prV KO u o2 F.t N
theorem FulP.i {u m : PH} {v : Value} {F : CF} {N : Nat} (h : FulP u v F N) : FulI u m v F N := by
 obtain ⟨b, a, n, c, b', a', n', c', g1, g2, o1, o2, e, h1, h2, h3, h4, h5⟩ := h
 exact ⟨b, a, n, c, b', a', n', c', g1, g2, o1, o2, e, h1, .inl h2, .inl h3, h4, h5⟩
theorem FulM.i {u m : PH} {v : Value} {F : CF} {N : Nat} (h : FulM m u v F N) : FulI u m v F N := by
 obtain ⟨b, a, n, c, b', a', n', c', g1, g2, o1, o2, e, h1, h2, rfl, h4, h5⟩ := h
 exact ⟨b, a, n, c, b', a', n', c', g1, g2, o1, o2, e, h1, .inr (by rw [upd_ne _ _ h2, upd_same]), .inr (upd_same _ _ _), h4, h5⟩
section
variable {P : Program} [Mixed P] {fn : Func} {Post : Spec} {st : List KI × S} {u m : PH}
theorem G.appendMV (e : TypeId) (sz bt : Nat) (z : Value) (m0 : PH) (es xs : List Value) (v : Value) (a : Option Addr) (n c : Nat) (h : stopV P (adv P st) = .app (some (e, sz, bt, z)) true [v, .slice a n c]) (hz : z.cells.toList.all cellOK = true) (hzs : z.cells.size = sz) (hsz : 0 < sz)
  (ha : ArrAt m0 m v e sz es) (hn : n = xs.length) (hx : xs ≠ [] → ∃ b off, a = some ⟨b, off, none⟩ ∧ ElsP m b off sz xs) (ho : ElsOK sz xs) (hb : (es.length + xs.length) * bt ≤ 140737488355328) (hb2 : es.length + xs.length ≤ 9223372036854775807)
  (k : ∀ v' m', ArrAt m0 m' v' e sz (es ++ xs) → G P fn Post (nx (adv P st) v') u m') : G P fn Post st u m := by
 cases xs with
 | nil =>
  simp only [List.length_nil] at hn
  subst hn
  obtain ⟨a1, c1, rfl⟩ := ha.shape
  refine G.append0 e sz bt z a1 a es.length c1 c h ha.cap ?_
  exact k _ _ (by rw [List.append_nil]; exact ha)
 | cons x xs =>
  obtain ⟨b, off, rfl, hx'⟩ := hx (by simp)
  subst hn
  exact G.appendM e sz bt z m0 es (x :: xs) v b off _ c h hz hzs hsz ha hx' ho rfl (by simp) hb hb2 k
end
theorem ArrAt.els {m0 m : PH} {t : TypeId} {sz : Nat} {es : List Value} {b n c : Nat} (h : ArrAt m0 m (.slice (some ⟨b, 0, none⟩) n c) t sz es) : ElsP m b 0 sz es := fun j e hj => h.el hj
theorem ElsP.drop {m : PH} {b sz : Nat} {es : List Value} (h : ElsP m b 0 sz es) (k : Nat) : ElsP m b (0 + k * sz) sz (es.drop k) := fun j e hj => by
 have := h (k + j) e (by rw [List.getElem?_drop] at hj; exact hj)
 rw [Nat.add_mul, Nat.zero_add] at this
 rw [Nat.zero_add]; exact this
theorem termsV_ok (l : List (Par × Rat)) : ElsOK 3 (l.map termV) := fun e he => by
 obtain ⟨p, _, rfl⟩ := List.mem_map.1 he
 exact termV_ok p _ (by simp)
theorem prtsV_ok (l : List ((Par × Par) × Rat)) : ElsOK 5 (l.map prtV) := fun e he => by
 obtain ⟨p, _, rfl⟩ := List.mem_map.1 he
 exact prtV_ok p _ (by simp)
theorem num_zero {q : Rat} : q.num = 0 ↔ q = 0 := Rat.num_eq_zero
set_option maxHeartbeats 16000000 in
theorem refGiveF0 {u m : PH} {v : Value} {F : CF} {N : Nat} (h : FulI u m v F N) (sF : CFS F) (hN : N ≤ 1000000) :
  FnK Tryz.prog 54 [v] u m fun r u' => RngP u' r F N := by
 obtain ⟨b, a, n, c, b', a', n', c', g1, g2, o1, o2, rfl, hF, hg1, hg2, s1, s2⟩ := h
 obtain ⟨l1, ⟨es1, clk1, rfl, hkv1, hst1⟩, hl1, hz1, hn1⟩ := s1.at
 obtain ⟨l2, ⟨es2, clk2, rfl, hkv2, hst2⟩, hl2, hz2, hn2⟩ := s2.at
 have hnd1 : (l1.map (·.1)).Nodup := MapO.nodup (enc := parV) ⟨es1, clk1, rfl, hkv1, hst1⟩
 have hnd2 : (l2.map (·.1)).Nodup := MapO.nodup (enc := prV) ⟨es2, clk2, rfl, hkv2, hst2⟩
 have sit1 : ∀ {u' m' : PH}, PH.le u u' → PH.le m m' → u' g1 = some (.map es1 clk1) ∨ m' g1 = some (.map es1 clk1) := fun a b => hg1.elim (fun e => .inl (a _ _ e)) (fun e => .inr (b _ _ e))
 have sit2 : ∀ {u' m' : PH}, PH.le u u' → PH.le m m' → u' g2 = some (.map es2 clk2) ∨ m' g2 = some (.map es2 clk2) := fun a b => hg2.elim (fun e => .inl (a _ _ e)) (fun e => .inr (b _ _ e))
 refine FnK.of Tryz.func54 (by kernel_rfl) (by kernel_rfl) ?_
 refine G.call0 _ _ (by kernel_rfl) Tryz.call107 (refGive0 hF (SB.tx sF.c)) ?_
 rintro v1 u1 le1 rfl
 refine G.neqF 0 0 (by kernel_rfl) (by omega) ?_
 refine G.mapRange g1 es1 clk1 55 124 (by kernel_rfl) (sit1 le1 (fun _ _ h => h)) ?_
 intro it him hiu
 have hlem : ∀ o, PH.le m (m.upd it o) := fun o => le_upd o him
 refine G.loop (ι := List MapEntry × List (Par × Value) × List (Par × Rat) × (Option Addr × Nat)) (fun i => [(1, .p 0 0), (2, .p 1 0), (6, .p 2002 0), (33, .v (.pointer (some ⟨it, 0, none⟩)))])
  (fun i => [(0, ⟨128, [.v (.bool b), .v (.slice a n c), .v (.bool b'), .v (.slice a' n' c'), .v (.map (some g1)), .v (.map (some g2))]⟩), (1, ⟨38, [.v (.string (mkS [])), .v (.slice none 0 0), .v (.slice none 0 0)]⟩), (2002, ⟨38, [.v (.string (mkS (ratT F.c))), .v (.slice i.2.2.2.1 i.2.2.1.length i.2.2.2.2), .v (.slice none 0 0)]⟩)])
  (fun i u' m' => Seen parV es1 l1 i.1 i.2.1 ∧ InsK cmpP F.s (i.2.1.map (·.1)) i.2.2.1 ∧ i.2.2.1.length ≤ i.2.1.length ∧ ArrAt (m.upd it (.mapIter (some g1) clk1 (seenOf i.1) clk1)) m' (.slice i.2.2.2.1 i.2.2.1.length i.2.2.2.2) 57 3 (i.2.2.1.map termV))
  (fun i => l1.length - i.2.1.length) ([], [], [], (none, 0)) (by kernel_rfl) (fun _ => by kernel_rfl) ⟨by kernel_rfl, by kernel_rfl, by kernel_rfl⟩
  ⟨Seen.nil _ _, InsK.nil, Nat.le_refl _, ArrAt.nil _ _ _⟩ ?_
 rintro J ⟨D, L, S, ⟨sa, sc⟩⟩ hJ u2 m2 l2' ⟨hS, hI, hSL, hA⟩
 simp only at hS hI hSL hA hJ
 have le2 := le1.trans l2'
 have hit : m2 it = some (.mapIter (some g1) clk1 (seenOf D) clk1) := hA.see (upd_same _ _ _)
 have hlm2 : PH.le m m2 := fun g o hg => hA.see (hlem _ g o hg)
 refine G.mapNextL keyPar.inj it g1 es1 clk1 l1 D L (by kernel_rfl) (by kernel_rfl) hit (sit1 le2 hlm2) hst1 hkv1 hnd1 hS ?done1 ?next1
 case next1 =>
  rintro ⟨k, xv⟩ e hp hkn he hek hev hS'
  simp only at hkn hek hev
  have hx := (hl1 _ hp).1
  simp only at hx
  obtain ⟨yb, ya, yn, yc, ya', yn', yc', rfl, _⟩ := hx.opn
  have hA1 := hA.base (b := it) (o := .mapIter (some g1) clk1 (seenOf (D ++ [e])) clk1) (by rw [upd_same]; simp)
  rw [upd_upd] at hA1
  have hlm3 : PH.le m (m2.upd it (.mapIter (some g1) clk1 (seenOf (D ++ [e])) clk1)) := fun g o hg => hA1.see (hlem _ g o hg)
  refine G.mapEntry it g1 es1 clk1 D e (by kernel_rfl) (upd_same _ _ _) (sit1 le2 hlm3) hst1 he ?_
  rw [hek, hev]
  have hSlen := hS'.len
  simp only [List.length_append, List.length_cons, List.length_nil] at hSlen
  have hqs := sF.s k
  refine G.call0 _ _ (by kernel_rfl) Tryz.call108 (refZero0 (hx.mono le2) (by have := (SB.sz hqs).1; omega)) ?_
  rintro v3 u3 l3 rfl
  by_cases h0 : F.s k = 0
  ·rw [decide_eq_true (num_zero.2 h0)]
   refine G.back (by kernel_rfl) (hJ (D ++ [e], L ++ [(k, _)], S, (sa, sc)) _ _ _ ⟨by kernel_rfl, by kernel_rfl, by kernel_rfl⟩ (l2'.trans l3) ⟨hS', by dsimp only; rw [List.map_append]; exact hI.skip h0, by dsimp only; simp; omega, hA1⟩ (by have := hS'.len; simp at this; dsimp only; simp; omega))
  ·rw [decide_eq_false (fun e => h0 (num_zero.1 e))]
   refine G.call0 _ _ (by kernel_rfl) Tryz.call107 (refGive0 (hx.mono (le2.trans l3)) (SB.tx hqs)) ?_
   rintro v4 u4 l4 rfl
   refine G.neqF 0 0 (by kernel_rfl) (by omega) ?_
   have hA4 := hA1
   generalize hm3 : m2.upd it (.mapIter (some g1) clk1 (seenOf (D ++ [e])) clk1) = m3 at hA4 hlm3
   have hkS : k ∉ L.map (·.1) := hkn
   refine G.loop (ι := Nat) (fun n => [(1, .p 0 0), (2, .p 1 0), (6, .p 2002 0), (7, .p 7003 0), (11, .p 12003 0), (12, .v (.int .i64 (n : Int))), (33, .v (.pointer (some ⟨it, 0, none⟩)))])
    (fun _ => [(0, ⟨128, [.v (.bool b), .v (.slice a n c), .v (.bool b'), .v (.slice a' n' c'), .v (.map (some g1)), .v (.map (some g2))]⟩), (1, ⟨38, [.v (.string (mkS [])), .v (.slice none 0 0), .v (.slice none 0 0)]⟩), (2002, ⟨38, [.v (.string (mkS (ratT F.c))), .v (.slice sa S.length sc), .v (.slice none 0 0)]⟩), (7003, ⟨55, [.v (.int .i64 k.1), .v (.string (mkS k.2))]⟩), (12003, ⟨57, [.v (.int .i64 k.1), .v (.string (mkS k.2)), .v (.string (mkS (ratT (F.s k))))]⟩)])
    (fun n u' m' => n ≤ S.length ∧ (∀ j x, j < n → S[j]? = some x → cmpP x.1 k < 0) ∧ m' = m3) (fun n => S.length - n) 0 (by kernel_rfl) (fun _ => by kernel_rfl) ⟨by kernel_rfl, by kernel_rfl, by kernel_rfl⟩ ⟨by omega, fun j x hj => by omega, rfl⟩ ?_
   rintro J2 n2 hJ2 u5 m5 l5 ⟨hn2, hlow, rfl⟩
   have le5 := ((le2.trans l3).trans l4).trans l5
   refine G.joinF (ι := Unit) (fun st => path Tryz.prog st [.bool false]) (fun _ => [(1, .p 0 0), (2, .p 1 0), (6, .p 2002 0), (11, .p 12003 0), (12, .v (.int .i64 (n2 : Int))), (33, .v (.pointer (some ⟨it, 0, none⟩)))])
    (fun _ => [(0, ⟨128, [.v (.bool b), .v (.slice a n c), .v (.bool b'), .v (.slice a' n' c'), .v (.map (some g1)), .v (.map (some g2))]⟩), (1, ⟨38, [.v (.string (mkS [])), .v (.slice none 0 0), .v (.slice none 0 0)]⟩), (2002, ⟨38, [.v (.string (mkS (ratT F.c))), .v (.slice sa S.length sc), .v (.slice none 0 0)]⟩), (12003, ⟨57, [.v (.int .i64 k.1), .v (.string (mkS k.2)), .v (.string (mkS (ratT (F.s k))))]⟩)])
    (fun _ u' m' => m' = m5 ∧ ∀ x, S[n2]? = some x → ¬ cmpP x.1 k < 0) (fun _ => by kernel_rfl) (by kernel_rfl) ?tail ?way
   case way =>
    intro hjoin
    by_cases hlt : n2 < S.length
    ·refine G.lssT (n2 : Int) (S.length : Int) (by kernel_rfl) (by omega) ?_
     obtain ⟨x, hSx⟩ : ∃ x, S[n2]? = some x := ⟨_, List.getElem?_eq_getElem hlt⟩
     obtain ⟨gs, cs, hgc⟩ := hA4.ptr (fun e => by
      have : S.length = 0 := by simpa using congrArg List.length e
      omega)
     simp only [Value.slice.injEq] at hgc
     obtain ⟨rfl, _, rfl⟩ := hgc
     refine G.addr gs 0 S.length sc n2 3 (by kernel_rfl) hlt ?_
     refine G.fieldA 57 gs (0 + n2 * 3) 0 0 (by kernel_rfl) (by kernel_rfl) ?_
     have hel : ElP m5 gs (0 + n2 * 3) (termV x) := hA4.el (by rw [List.getElem?_map, hSx]; rfl)
     refine G.loadM (some 2) gs (0 + n2 * 3 + 0) (.agg #[.int .i64 x.1.1, .string (mkS x.1.2)]) (by kernel_rfl) (by kernel_rfl) (hel.sub (k := 0) fun i y hy => by
      match i, hy with
      | 0, hy => simpa [termV, Value.cells] using hy
      | 1, hy => simpa [termV, Value.cells] using hy
      | i + 2, hy => simp [Value.cells] at hy) ?_
     by_cases hc : cmpP x.1 k < 0
     ·refine G.call0 _ _ (by kernel_rfl) Tryz.call109 (refLess0 x.1 k true (decide_eq_true hc)) ?_
      rintro v6 u6 l6 rfl
      refine G.add (n2 : Int) 1 ((n2 + 1 : Nat) : Int) (by kernel_rfl) (by omega) (by omega) (by omega) ?_
      exact G.back (by kernel_rfl) (hJ2 (n2 + 1) _ _ _ ⟨by kernel_rfl, by kernel_rfl, by kernel_rfl⟩ (l5.trans l6) ⟨by omega, fun j y hj hy => by
       rcases (by omega : j < n2 ∨ j = n2) with e | rfl
       ·exact hlow j y e hy
       ·rw [hSx] at hy; cases hy; exact hc, rfl⟩ (by omega))
     ·refine G.call0 _ _ (by kernel_rfl) Tryz.call109 (refLess0 x.1 k false (decide_eq_false hc)) ?_
      rintro v6 u6 l6 rfl
      exact hjoin () _ _ _ (by kernel_rfl) ⟨by kernel_rfl, by kernel_rfl, by kernel_rfl⟩ l6 ⟨rfl, fun y hy => by rw [hSx] at hy; cases hy; exact hc⟩
    ·refine G.lssF (n2 : Int) (S.length : Int) (by kernel_rfl) (by omega) ?_
     exact hjoin () _ _ _ (by kernel_rfl) ⟨by kernel_rfl, by kernel_rfl, by kernel_rfl⟩ (PH.le_refl _) ⟨rfl, fun y hy => by rw [List.getElem?_eq_none (by omega)] at hy; cases hy⟩
   rintro _ u6 m6 l6 ⟨rfl, hhigh⟩
   have hcap := hA4.cap
   refine G.sliceTo 3 sa S.length sc n2 (by kernel_rfl) (by omega) ?_
   refine G.sliceFromG sa S.length sc n2 3 (by kernel_rfl) hn2 hcap ?_
   refine G.buildM 57 3 40 (.agg #[.int .i64 0, .string (mkS []), .string (mkS [])]) [.agg #[.int .i64 k.1, .string (mkS k.2), .string (mkS (ratT (F.s k)))]] (by kernel_rfl) (termV_ok (k, F.s k)) rfl (by omega) (by simp) (by simp) ?_
   intro gt m7 hT7
   refine G.appendMV 57 3 40 (.agg #[.int .i64 0, .string (mkS []), .string (mkS [])]) m6 [.agg #[.int .i64 k.1, .string (mkS k.2), .string (mkS (ratT (F.s k)))]] ((S.drop n2).map termV) (.slice (some ⟨gt, 0, none⟩) 1 1) (if sc = n2 then sa else sa.map (·.add (n2 * 3))) (S.length - n2) (sc - n2) (by kernel_rfl) rfl rfl (by omega) hT7 (by simp) (fun hne => ?_) (termsV_ok _) (by simp; omega) (by simp; omega) ?_
   ·have hlt : n2 < S.length := by
     rcases Nat.lt_or_ge n2 S.length with h | h
     ·exact h
     ·exact absurd (by rw [List.drop_of_length_le h]; rfl) hne
    obtain ⟨gs, cs, hgc⟩ := hA4.ptr (fun e => by
     have : S.length = 0 := by simpa using congrArg List.length e
     omega)
    simp only [Value.slice.injEq] at hgc
    obtain ⟨rfl, _, rfl⟩ := hgc
    refine ⟨gs, 0 + n2 * 3, ?_, ?_⟩
    ·rw [if_neg (by omega)]
     simp [addr_add]
    ·have := hA4.els.drop n2
     rw [← List.map_drop] at this
     exact fun j e hj i y hy => by
      obtain ⟨cs, t, fr, q1, q2⟩ := this j e hj i y hy
      exact ⟨cs, t, fr, hT7.le _ _ q1, q2⟩
   intro v8 m8 hT8
   obtain ⟨a8, c8, rfl⟩ := hT8.ptr (by simp)
   have hAt := hA4.take (k := n2) (by rw [List.length_map]; exact hn2)
   obtain ⟨mx, hy1, hx1, hput⟩ := At.swap (x := ⟨.slice sa n2 sc, 57, 3, (S.map termV).take n2⟩) (y := ⟨.slice (some ⟨a8, 0, none⟩) _ c8, 57, 3, _⟩) hT8 hAt
   refine G.appendM 57 3 40 (.agg #[.int .i64 0, .string (mkS []), .string (mkS [])]) mx ((S.map termV).take n2) _ (.slice sa n2 sc) a8 0 _ c8 (by kernel_rfl) rfl rfl (by omega) hx1 hT8.els hT8.1 rfl (by simp) (by simp; omega) (by simp; omega) ?_
   intro v9 m9 hA9
   obtain ⟨mz, hz1, hz2⟩ := hput ⟨v9, 57, 3, _⟩ m9 hA9
   have hes : (S.map termV).take n2 ++ ([.agg #[.int .i64 k.1, .string (mkS k.2), .string (mkS (ratT (F.s k)))]] ++ (S.drop n2).map termV) = (S.take n2 ++ [(k, F.s k)] ++ S.drop n2).map termV := by
    rw [List.map_append, List.map_append, List.map_take, List.append_assoc]; rfl
   have hz3 : ArrAt (m.upd it (.mapIter (some g1) clk1 (seenOf (D ++ [e])) clk1)) mz v9 57 3 ((S.take n2 ++ [(k, F.s k)] ++ S.drop n2).map termV) := by rw [← hes]; exact hz2
   obtain ⟨a9, c9, rfl⟩ := hz3.shape
   rw [List.length_map] at hz3 ⊢
   have hS9 : (S.take n2 ++ [(k, F.s k)] ++ S.drop n2).length = S.length + 1 := by simp; omega
   refine G.drop mz (by kernel_rfl) (fun g o hg => ArrAt.le hz1 g o hg) ?_
   refine G.back (by kernel_rfl) (hJ (D ++ [e], L ++ [(k, _)], S.take n2 ++ [(k, F.s k)] ++ S.drop n2, (a9, c9)) _ _ _ ⟨by kernel_rfl, by kernel_rfl, by kernel_rfl⟩ ((((l2'.trans l3).trans l4).trans l5).trans l6) ⟨hS', ?_, by dsimp only; rw [hS9]; simp; omega, hz3⟩ (by have := hS'.len; simp at this; dsimp only; simp; omega))
   dsimp only
   rw [List.map_append]
   exact hI.put ordP h0 hkS hlow hhigh
 case done1 =>
 intro hall
 have hcan1 : Can cmpP F.s S := hI.can fun k hk => hz1 k fun hm => hk (by
  obtain ⟨p, hp, rfl⟩ := List.mem_map.1 hm
  exact List.mem_map.2 ⟨p, hall p hp, rfl⟩)
 have hS1 : S.length ≤ N := by have := hS.len; omega
 refine G.give _ _ _ (by kernel_rfl) hA (fun g => ?_) ?_
 ·cases hg : m g with
  | none => exact .inl hg
  | some o => exact .inr (by rw [hlem _ g o hg]; simp)
 intro u3 l3 hX
 refine G.drop m (by kernel_rfl) (hlem _) ?_
 have le3 := le2.trans l3
 clear hJ hA hI hSL hit hlm2 hS hall
 revert S sa sc
 intro X xa xc hcan1 hS1 hX
 refine G.mapRange g2 es2 clk2 182 124 (by kernel_rfl) (sit2 le3 (fun _ _ h => h)) ?_
 intro it2 him2 hiu2
 have hlem2 : ∀ o, PH.le m (m.upd it2 o) := fun o => le_upd o him2
 refine G.loop (ι := List MapEntry × List ((Par × Par) × Value) × List ((Par × Par) × Rat) × (Option Addr × Nat)) (fun i => [(1, .p 0 0), (2, .p 1 0), (6, .p 2002 0), (85, .v (.pointer (some ⟨it2, 0, none⟩)))])
  (fun i => [(0, ⟨128, [.v (.bool b), .v (.slice a n c), .v (.bool b'), .v (.slice a' n' c'), .v (.map (some g1)), .v (.map (some g2))]⟩), (1, ⟨38, [.v (.string (mkS [])), .v (.slice none 0 0), .v (.slice none 0 0)]⟩), (2002, ⟨38, [.v (.string (mkS (ratT F.c))), .v (.slice xa X.length xc), .v (.slice i.2.2.2.1 i.2.2.1.length i.2.2.2.2)]⟩)])
  (fun i u' m' => Seen prV es2 l2 i.1 i.2.1 ∧ InsK cmpQ F.t (i.2.1.map (·.1)) i.2.2.1 ∧ i.2.2.1.length ≤ i.2.1.length ∧ ArrAt (m.upd it2 (.mapIter (some g2) clk2 (seenOf i.1) clk2)) m' (.slice i.2.2.2.1 i.2.2.1.length i.2.2.2.2) 119 5 (i.2.2.1.map prtV))
  (fun i => l2.length - i.2.1.length) ([], [], [], (none, 0)) (by kernel_rfl) (fun _ => by kernel_rfl) ⟨by kernel_rfl, by kernel_rfl, by kernel_rfl⟩
  ⟨Seen.nil _ _, InsK.nil, Nat.le_refl _, ArrAt.nil _ _ _⟩ ?_
 rintro J ⟨D, L, S, ⟨sa, sc⟩⟩ hJ u2 m2 l2' ⟨hS, hI, hSL, hA⟩
 simp only at hS hI hSL hA hJ
 have le2 := le3.trans l2'
 have hit : m2 it2 = some (.mapIter (some g2) clk2 (seenOf D) clk2) := hA.see (upd_same _ _ _)
 have hlm2 : PH.le m m2 := fun g o hg => hA.see (hlem2 _ g o hg)
 refine G.mapNextL keyArr.inj it2 g2 es2 clk2 l2 D L (by kernel_rfl) (by kernel_rfl) hit (sit2 le2 hlm2) hst2 hkv2 hnd2 hS ?done2 ?next2
 case next2 =>
  rintro ⟨k, xv⟩ e hp hkn he hek hev hS'
  simp only at hkn hek hev
  have hx := (hl2 _ hp).1
  simp only at hx
  obtain ⟨yb, ya, yn, yc, ya', yn', yc', rfl, _⟩ := hx.opn
  have hA1 := hA.base (b := it2) (o := .mapIter (some g2) clk2 (seenOf (D ++ [e])) clk2) (by rw [upd_same]; simp)
  rw [upd_upd] at hA1
  have hlm3 : PH.le m (m2.upd it2 (.mapIter (some g2) clk2 (seenOf (D ++ [e])) clk2)) := fun g o hg => hA1.see (hlem2 _ g o hg)
  refine G.mapEntry it2 g2 es2 clk2 D e (by kernel_rfl) (upd_same _ _ _) (sit2 le2 hlm3) hst2 he ?_
  rw [hek, hev]
  have hSlen := hS'.len
  simp only [List.length_append, List.length_cons, List.length_nil] at hSlen
  have hqs := sF.t k
  refine G.call0 _ _ (by kernel_rfl) Tryz.call108 (refZero0 (hx.mono le2) (by have := (SB.sz hqs).1; omega)) ?_
  rintro v3 u3 l3 rfl
  by_cases h0 : F.t k = 0
  ·rw [decide_eq_true (num_zero.2 h0)]
   refine G.back (by kernel_rfl) (hJ (D ++ [e], L ++ [(k, _)], S, (sa, sc)) _ _ _ ⟨by kernel_rfl, by kernel_rfl, by kernel_rfl⟩ (l2'.trans l3) ⟨hS', by dsimp only; rw [List.map_append]; exact hI.skip h0, by dsimp only; simp; omega, hA1⟩ (by have := hS'.len; simp at this; dsimp only; simp; omega))
  ·rw [decide_eq_false (fun e => h0 (num_zero.1 e))]
   refine G.call0 _ _ (by kernel_rfl) Tryz.call107 (refGive0 (hx.mono (le2.trans l3)) (SB.tx hqs)) ?_
   rintro v4 u4 l4 rfl
   refine G.neqF 0 0 (by kernel_rfl) (by omega) ?_
   refine G.pub 19003 182 [.int .i64 k.1.1, .string (mkS k.1.2), .int .i64 k.2.1, .string (mkS k.2.2)] (by kernel_rfl) (by kernel_rfl) ?_
   intro bq hq1 hq2
   have hbase : (m.upd it2 (.mapIter (some g2) clk2 (seenOf (D ++ [e])) clk2)) bq = none := by
    cases hh : (m.upd it2 (.mapIter (some g2) clk2 (seenOf (D ++ [e])) clk2)) bq with
    | none => rfl
    | some o => rw [hA1.see hh] at hq2; cases hq2
   have hA4 := hA1.fresh (o := .cells [Value.int .i64 k.1.1, .string (mkS k.1.2), .int .i64 k.2.1, .string (mkS k.2.2)].toArray 182 (0, 0)) hq2
   obtain ⟨pe1, pe2⟩ := pr_el (m := (m2.upd it2 (.mapIter (some g2) clk2 (seenOf (D ++ [e])) clk2)).upd bq (.cells [Value.int .i64 k.1.1, .string (mkS k.1.2), .int .i64 k.2.1, .string (mkS k.2.2)].toArray 182 (0, 0))) (upd_same _ _ _)
   refine G.addrA 182 55 2 bq 0 0 2 (by kernel_rfl) (by kernel_rfl) (by kernel_rfl) (by kernel_rfl) (by omega) ?_
   refine G.loadM (some 2) bq (0 + 0 * 2) (.agg #[.int .i64 k.1.1, .string (mkS k.1.2)]) (by kernel_rfl) (by kernel_rfl) pe1 ?_
   refine G.addrA 182 55 2 bq 0 1 2 (by kernel_rfl) (by kernel_rfl) (by kernel_rfl) (by kernel_rfl) (by omega) ?_
   refine G.loadM (some 2) bq (0 + 1 * 2) (.agg #[.int .i64 k.2.1, .string (mkS k.2.2)]) (by kernel_rfl) (by kernel_rfl) pe2 ?_
   generalize hm3 : (m2.upd it2 (.mapIter (some g2) clk2 (seenOf (D ++ [e])) clk2)).upd bq (.cells [Value.int .i64 k.1.1, .string (mkS k.1.2), .int .i64 k.2.1, .string (mkS k.2.2)].toArray 182 (0, 0)) = m3 at hA4
   have hkS : k ∉ L.map (·.1) := hkn
   refine G.loop (ι := Nat) (fun n => [(1, .p 0 0), (2, .p 1 0), (6, .p 2002 0), (17, .p 24006 0), (18, .v (.int .i64 (n : Int))), (85, .v (.pointer (some ⟨it2, 0, none⟩)))])
    (fun _ => [(0, ⟨128, [.v (.bool b), .v (.slice a n c), .v (.bool b'), .v (.slice a' n' c'), .v (.map (some g1)), .v (.map (some g2))]⟩), (1, ⟨38, [.v (.string (mkS [])), .v (.slice none 0 0), .v (.slice none 0 0)]⟩), (2002, ⟨38, [.v (.string (mkS (ratT F.c))), .v (.slice xa X.length xc), .v (.slice sa S.length sc)]⟩), (24006, ⟨119, [.v (.int .i64 k.1.1), .v (.string (mkS k.1.2)), .v (.int .i64 k.2.1), .v (.string (mkS k.2.2)), .v (.string (mkS (ratT (F.t k))))]⟩)])
    (fun n u' m' => n ≤ S.length ∧ (∀ j x, j < n → S[j]? = some x → cmpQ x.1 k < 0) ∧ m' = m3) (fun n => S.length - n) 0 (by kernel_rfl) (fun _ => by kernel_rfl) ⟨by kernel_rfl, by kernel_rfl, by kernel_rfl⟩ ⟨by omega, fun j x hj => by omega, rfl⟩ ?_
   rintro J2 n2 hJ2 u5 m5 l5 ⟨hn2, hlow, rfl⟩
   have le5 := ((le2.trans l3).trans l4).trans l5
   refine G.joinF (ι := Unit) (fun st => path Tryz.prog st [.bool false]) (fun _ => [(1, .p 0 0), (2, .p 1 0), (6, .p 2002 0), (17, .p 24006 0), (18, .v (.int .i64 (n2 : Int))), (85, .v (.pointer (some ⟨it2, 0, none⟩)))])
    (fun _ => [(0, ⟨128, [.v (.bool b), .v (.slice a n c), .v (.bool b'), .v (.slice a' n' c'), .v (.map (some g1)), .v (.map (some g2))]⟩), (1, ⟨38, [.v (.string (mkS [])), .v (.slice none 0 0), .v (.slice none 0 0)]⟩), (2002, ⟨38, [.v (.string (mkS (ratT F.c))), .v (.slice xa X.length xc), .v (.slice sa S.length sc)]⟩), (24006, ⟨119, [.v (.int .i64 k.1.1), .v (.string (mkS k.1.2)), .v (.int .i64 k.2.1), .v (.string (mkS k.2.2)), .v (.string (mkS (ratT (F.t k))))]⟩)])
    (fun _ u' m' => m' = m5 ∧ ∀ x, S[n2]? = some x → ¬ cmpQ x.1 k < 0) (fun _ => by kernel_rfl) (by kernel_rfl) ?tail2 ?way2
   case way2 =>
    intro hjoin
    by_cases hlt : n2 < S.length
    ·refine G.lssT (n2 : Int) (S.length : Int) (by kernel_rfl) (by omega) ?_
     obtain ⟨x, hSx⟩ : ∃ x, S[n2]? = some x := ⟨_, List.getElem?_eq_getElem hlt⟩
     obtain ⟨gs, cs, hgc⟩ := hA4.ptr (fun e => by
      have : S.length = 0 := by simpa using congrArg List.length e
      omega)
     simp only [Value.slice.injEq] at hgc
     obtain ⟨rfl, _, rfl⟩ := hgc
     refine G.addr gs 0 S.length sc n2 5 (by kernel_rfl) hlt ?_
     have hel : ElP m5 gs (0 + n2 * 5) (prtV x) := hA4.el (by rw [List.getElem?_map, hSx]; rfl)
     refine G.loadM (some 5) gs (0 + n2 * 5) (prtV x) (by kernel_rfl) (by kernel_rfl) hel ?_
     by_cases hc : cmpQ x.1 k < 0
     ·refine G.call0 _ _ (by kernel_rfl) Tryz.call110 (refBefore0 x (k, F.t k) true (decide_eq_true hc)) ?_
      rintro v6 u6 l6 rfl
      refine G.add (n2 : Int) 1 ((n2 + 1 : Nat) : Int) (by kernel_rfl) (by omega) (by omega) (by omega) ?_
      exact G.back (by kernel_rfl) (hJ2 (n2 + 1) _ _ _ ⟨by kernel_rfl, by kernel_rfl, by kernel_rfl⟩ (l5.trans l6) ⟨by omega, fun j y hj hy => by
       rcases (by omega : j < n2 ∨ j = n2) with e | rfl
       ·exact hlow j y e hy
       ·rw [hSx] at hy; cases hy; exact hc, rfl⟩ (by omega))
     ·refine G.call0 _ _ (by kernel_rfl) Tryz.call110 (refBefore0 x (k, F.t k) false (decide_eq_false hc)) ?_
      rintro v6 u6 l6 rfl
      exact hjoin () _ _ _ (by kernel_rfl) ⟨by kernel_rfl, by kernel_rfl, by kernel_rfl⟩ l6 ⟨rfl, fun y hy => by rw [hSx] at hy; cases hy; exact hc⟩
    ·refine G.lssF (n2 : Int) (S.length : Int) (by kernel_rfl) (by omega) ?_
     exact hjoin () _ _ _ (by kernel_rfl) ⟨by kernel_rfl, by kernel_rfl, by kernel_rfl⟩ (PH.le_refl _) ⟨rfl, fun y hy => by rw [List.getElem?_eq_none (by omega)] at hy; cases hy⟩
   rintro _ u6 m6 l6 ⟨rfl, hhigh⟩
   have hcap := hA4.cap
   refine G.sliceTo 5 sa S.length sc n2 (by kernel_rfl) (by omega) ?_
   refine G.sliceFromG sa S.length sc n2 5 (by kernel_rfl) hn2 hcap ?_
   refine G.buildM 119 5 64 (.agg #[.int .i64 0, .string (mkS []), .int .i64 0, .string (mkS []), .string (mkS [])]) [.agg #[.int .i64 k.1.1, .string (mkS k.1.2), .int .i64 k.2.1, .string (mkS k.2.2), .string (mkS (ratT (F.t k)))]] (by kernel_rfl) (prtV_ok (k, F.t k)) rfl (by omega) (by simp) (by simp) ?_
   intro gt m7 hT7
   refine G.appendMV 119 5 64 (.agg #[.int .i64 0, .string (mkS []), .int .i64 0, .string (mkS []), .string (mkS [])]) m6 [.agg #[.int .i64 k.1.1, .string (mkS k.1.2), .int .i64 k.2.1, .string (mkS k.2.2), .string (mkS (ratT (F.t k)))]] ((S.drop n2).map prtV) (.slice (some ⟨gt, 0, none⟩) 1 1) (if sc = n2 then sa else sa.map (·.add (n2 * 5))) (S.length - n2) (sc - n2) (by kernel_rfl) rfl rfl (by omega) hT7 (by simp) (fun hne => ?_) (prtsV_ok _) (by simp; omega) (by simp; omega) ?_
   ·have hlt : n2 < S.length := by
     rcases Nat.lt_or_ge n2 S.length with h | h
     ·exact h
     ·exact absurd (by rw [List.drop_of_length_le h]; rfl) hne
    obtain ⟨gs, cs, hgc⟩ := hA4.ptr (fun e => by
     have : S.length = 0 := by simpa using congrArg List.length e
     omega)
    simp only [Value.slice.injEq] at hgc
    obtain ⟨rfl, _, rfl⟩ := hgc
    refine ⟨gs, 0 + n2 * 5, ?_, ?_⟩
    ·rw [if_neg (by omega)]
     simp [addr_add]
    ·have := hA4.els.drop n2
     rw [← List.map_drop] at this
     exact fun j e hj i y hy => by
      obtain ⟨cs, t, fr, q1, q2⟩ := this j e hj i y hy
      exact ⟨cs, t, fr, hT7.le _ _ q1, q2⟩
   intro v8 m8 hT8
   obtain ⟨a8, c8, rfl⟩ := hT8.ptr (by simp)
   have hAt := hA4.take (k := n2) (by rw [List.length_map]; exact hn2)
   obtain ⟨mx, hy1, hxx1, hput⟩ := At.swap (x := ⟨.slice sa n2 sc, 119, 5, (S.map prtV).take n2⟩) (y := ⟨.slice (some ⟨a8, 0, none⟩) _ c8, 119, 5, _⟩) hT8 hAt
   refine G.appendM 119 5 64 (.agg #[.int .i64 0, .string (mkS []), .int .i64 0, .string (mkS []), .string (mkS [])]) mx ((S.map prtV).take n2) _ (.slice sa n2 sc) a8 0 _ c8 (by kernel_rfl) rfl rfl (by omega) hxx1 hT8.els hT8.1 rfl (by simp) (by simp; omega) (by simp; omega) ?_
   intro v9 m9 hA9
   obtain ⟨mz, hz1, hz2⟩ := hput ⟨v9, 119, 5, _⟩ m9 hA9
   have hes : (S.map prtV).take n2 ++ ([.agg #[.int .i64 k.1.1, .string (mkS k.1.2), .int .i64 k.2.1, .string (mkS k.2.2), .string (mkS (ratT (F.t k)))]] ++ (S.drop n2).map prtV) = (S.take n2 ++ [(k, F.t k)] ++ S.drop n2).map prtV := by
    rw [List.map_append, List.map_append, List.map_take, List.append_assoc]; rfl
   have hz4 : ArrAt ((m.upd it2 (.mapIter (some g2) clk2 (seenOf (D ++ [e])) clk2)).upd bq (.cells [Value.int .i64 k.1.1, .string (mkS k.1.2), .int .i64 k.2.1, .string (mkS k.2.2)].toArray 182 (0, 0))) mz v9 119 5 ((S.take n2 ++ [(k, F.t k)] ++ S.drop n2).map prtV) := by rw [← hes]; exact hz2
   have hz3 := hz4.del (l := bq) (by rw [upd_same]; simp)
   rw [del_upd_same hbase] at hz3
   obtain ⟨a9, c9, rfl⟩ := hz3.shape
   rw [List.length_map] at hz3 ⊢
   have hS9 : (S.take n2 ++ [(k, F.t k)] ++ S.drop n2).length = S.length + 1 := by simp; omega
   refine G.drop (mz.del bq) (by kernel_rfl) (fun g o hg => ArrAt.le hz1 g o (del_le _ _ g o hg)) ?_
   refine G.back (by kernel_rfl) (hJ (D ++ [e], L ++ [(k, _)], S.take n2 ++ [(k, F.t k)] ++ S.drop n2, (a9, c9)) _ _ _ ⟨by kernel_rfl, by kernel_rfl, by kernel_rfl⟩ ((((l2'.trans l3).trans l4).trans l5).trans l6) ⟨hS', ?_, by dsimp only; rw [hS9]; simp; omega, hz3⟩ (by have := hS'.len; simp at this; dsimp only; simp; omega))
   dsimp only
   rw [List.map_append]
   exact hI.put ordQ h0 hkS hlow hhigh
 case done2 =>
 intro hall
 have hcan2 : Can cmpQ F.t S := hI.can fun k hk => hz2 k fun hm => hk (by
  obtain ⟨p, hp, rfl⟩ := List.mem_map.1 hm
  exact List.mem_map.2 ⟨p, hall p hp, rfl⟩)
 have hS2 : S.length ≤ N := by have := hS.len; omega
 refine G.give _ _ _ (by kernel_rfl) hA (fun g => ?_) ?_
 ·cases hg : m g with
  | none => exact .inl hg
  | some o => exact .inr (by rw [hlem2 _ g o hg]; simp)
 intro u4 l4 hY
 refine G.drop m (by kernel_rfl) (hlem2 _) ?_
 exact G.ret (.tuple #[.agg #[.string (mkS (ratT F.c)), .slice xa X.length xc, .slice sa S.length sc], .int .i64 0]) (by kernel_rfl) ⟨rfl, _, rfl, X, S, xa, xc, sa, sc, rfl, hX.mono (l2'.trans l4), hY, hcan1, hcan2, hS1, hS2⟩
end Go.Proofs.YtpdboaedoimahaaGreatDoor
end
section
set_option linter.unusedSectionVars false
set_option linter.unusedVariables false
namespace Go.Proofs.YtpdboaedoimahaaGreatDoor
open Go.RowKit Go.MapKept
def lifI (F : List Feat) (a : Nat) (z : Int) (i : Nat) (fe : Int) (dr ho : Bool) : Prop :=
 (∃ k f, k < i ∧ F[k]? = some f ∧ f.1 = a ∧ fe = (k : Int) ∧ dr = decide (f.2.2 = 1) ∧ ho = decide (f.2.1 = 2)) ∨ ((∀ k f, k < i → F[k]? = some f → f.1 ≠ a) ∧ fe = z ∧ dr = true ∧ ho = false)
theorem add0 (q : Rat) : q + 0 = q := by grind
theorem lifI_skip {F : List Feat} {a : Nat} {z : Int} {i : Nat} {fe : Int} {dr ho : Bool} {f : Feat} (h : lifI F a z i fe dr ho) (hf : F[i]? = some f) (hne : f.1 ≠ a) : lifI F a z (i + 1) fe dr ho := by
 rcases h with ⟨k, g, h1, h2, h3⟩ | ⟨h1, h2⟩
 ·exact .inl ⟨k, g, by omega, h2, h3⟩
 ·refine .inr ⟨fun k g hk hg => ?_, h2⟩
  rcases (by omega : k < i ∨ k = i) with e | rfl
  ·exact h1 k g e hg
  ·rw [hf] at hg; cases hg; exact hne
theorem lifI_hit {F : List Feat} {a : Nat} {z : Int} {i : Nat} {f : Feat} (hf : F[i]? = some f) (he : f.1 = a) : lifI F a z (i + 1) (i : Int) (decide (f.2.2 = 1)) (decide (f.2.1 = 2)) :=
 .inl ⟨i, f, by omega, hf, he, rfl, rfl, rfl⟩
theorem lif_end {T : List (List UInt8 × Nat)} {F : List Feat} {lab : Int} {a : Nat} {z : Int} {x : List UInt8 × Nat} {t : List UInt8} {fe : Int} {dr ho : Bool} (hF : FeatOK T F lab) (l1 : -1 ≤ lab) (l2 : ∀ l : Nat, lab = (l : Int) → ∃ n, T[l]? = some (n, 2))
  (hx : T[a]? = some x) (hv : ValOK x.2 t) (hz : ((a : Int) = lab ∧ z = -1) ∨ ((a : Int) ≠ lab ∧ z = -2)) (h : lifI F a z F.length fe dr ho) :
  (fe = -2 ∧ attO F lab a t = some none) ∨ (fe ≠ -2 ∧ ((ho = true ∧ attO F lab a t = some (some ((fe, t), 1))) ∨ (ho = false ∧ t = [] ∧ attO F lab a t = (if dr then none else some none)) ∨ (ho = false ∧ t ≠ [] ∧ SmR (numT t) ∧ ratT (numT t) = t ∧ attO F lab a t = some (some ((fe, []), numT t))))) := by
 rcases h with ⟨k, f, hk, hf, rfl, rfl, rfl, rfl⟩ | ⟨hno, rfl, rfl, rfl⟩
 ·obtain ⟨n, kd, hT, hkind, hne⟩ := hF.ok f (List.mem_of_getElem? hf)
  rw [attO_feat hF.nodup hf hne]
  rw [hT] at hx; cases hx
  simp only at hv
  refine .inr ⟨by omega, ?_⟩
  unfold featO
  rcases hkind with ⟨k1, rfl, k3⟩ | ⟨k1, rfl, k3⟩
  ·rw [k1, if_neg (by omega)]
   by_cases ht : t = []
   ·refine .inr (.inl ⟨rfl, ht, ?_⟩)
    rw [if_pos ht]
    by_cases hm : f.2.2 = 1
    ·rw [if_pos hm, if_pos (decide_eq_true hm)]
    ·rw [if_neg hm, if_neg (by rw [decide_eq_true_eq]; exact hm)]
   ·obtain ⟨q1, q2⟩ := valOK_num2 hv ht
    exact .inr (.inr ⟨rfl, ht, q1, q2, by rw [if_neg ht]⟩)
  ·exact .inl ⟨by rw [k1]; rfl, by rw [if_pos k1]⟩
 ·rcases hz with ⟨hl, rfl⟩ | ⟨hl, rfl⟩
  ·refine .inr ⟨by omega, .inr ?_⟩
   obtain ⟨n, hn⟩ := l2 a hl.symm
   rw [hx] at hn; cases hn
   have e : attO F lab a t = labO t := by unfold attO; rw [if_pos hl]
   rw [e]
   unfold labO
   by_cases ht : t = []
   ·exact .inl ⟨rfl, ht, by rw [if_pos ht]; rfl⟩
   ·obtain ⟨q1, q2⟩ := valOK_num2 hv ht
    exact .inr ⟨rfl, ht, q1, q2, by rw [if_neg ht]⟩
  ·rcases attO_cases (F := F) (w := t) hl with e | ⟨i, f, hf, he, _⟩
   ·exact .inl ⟨rfl, e⟩
   ·exact absurd he (hno i f (List.getElem?_eq_some_iff.1 hf).1 hf)
theorem two_upd {g1 g2 : Nat} (hne : g1 ≠ g2) (o1 o2 p1 p2 : Obj) : (((PH.mt.upd g1 o1).upd g2 o2).upd g1 p1).upd g2 p2 = (PH.mt.upd g1 p1).upd g2 p2 := by
 rw [upd_comm _ _ _ (fun e => hne e.symm), upd_upd, upd_upd]
set_option maxHeartbeats 4000000 in
theorem refLifted0 {u : PH} {v : Value} {T : List (List UInt8 × Nat)} {R : List SRel} {F : List Feat} {lab : Int} {a : Nat} {x : List UInt8 × Nat} {t : List UInt8} (h : SchP u v T R F lab) (ok : SchOK u T R F lab) (hx : T[a]? = some x) (hv : ValOK x.2 t) :
  Contract Tryz.prog 106 [v, .int .i64 (a : Int), .string (mkS t)] u PH.mt fun v' u' m' => FulM m' u' v' (attO F lab a t).cf 1 := by
 have hfl := ok.f2
 have l1 := ok.l1
 have t2 := ok.t2
 have hat : a < T.length := (List.getElem?_eq_some_iff.1 hx).1
 obtain ⟨pa, ca, pb, cb, pe, ce, rfl, hT, hR, hF⟩ := h
 refine Contract.of Tryz.func106 (by kernel_rfl) (by kernel_rfl) ?_
 refine G.joinF (ι := Int) (fun st => path Tryz.prog st [.bool false]) (fun z => [(1, .v (.int .i64 (a : Int))), (2, .v (.string (mkS t))), (3, .p 0 0), (6, .p 1 0), (7, .v (.int .i64 z)), (8, .v (.bool true)), (9, .v (.bool false))])
  (fun _ => [(0, ⟨30, [.v (.slice pa T.length ca), .v (.slice pb R.length cb), .v (.slice pe F.length ce), .v (.int .i64 lab)]⟩), (1, ⟨128, [.v (.bool false), .v (.slice none 0 0), .v (.bool false), .v (.slice none 0 0), .v (.map none), .v (.map none)]⟩)])
  (fun z u' m' => u' = u ∧ m' = PH.mt ∧ (((a : Int) = lab ∧ z = -1) ∨ ((a : Int) ≠ lab ∧ z = -2))) (fun _ => by kernel_rfl) (by kernel_rfl) ?tail ?way
 case way =>
  intro hjoin
  by_cases hl : (a : Int) = lab
  ·refine G.eqlT (a : Int) lab (by kernel_rfl) hl ?_
   refine G.pastI ?_
   exact hjoin (-1) _ _ _ (by kernel_rfl) ⟨by kernel_rfl, by kernel_rfl, by kernel_rfl⟩ (PH.le_refl _) ⟨rfl, rfl, .inl ⟨hl, rfl⟩⟩
  ·refine G.eqlF (a : Int) lab (by kernel_rfl) hl ?_
   exact hjoin (-2) _ _ _ (by kernel_rfl) ⟨by kernel_rfl, by kernel_rfl, by kernel_rfl⟩ (PH.le_refl _) ⟨rfl, rfl, .inr ⟨hl, rfl⟩⟩
 rintro z _ _ _ ⟨rfl, rfl, hz⟩
 refine G.loop (ι := Nat × Int × Bool × Bool) (fun i => [(1, .v (.int .i64 (a : Int))), (2, .v (.string (mkS t))), (6, .p 1 0), (7, .v (.int .i64 i.2.1)), (8, .v (.bool i.2.2.1)), (9, .v (.bool i.2.2.2)), (20, .v (.slice pe F.length ce)), (21, .v (.int .i64 (F.length : Int))), (22, .v (.int .i64 (i.1 : Int)))])
  (fun _ => [(1, ⟨128, [.v (.bool false), .v (.slice none 0 0), .v (.bool false), .v (.slice none 0 0), .v (.map none), .v (.map none)]⟩)])
  (fun i u' m' => i.1 ≤ F.length ∧ m' = PH.mt ∧ lifI F a z i.1 i.2.1 i.2.2.1 i.2.2.2) (fun i => F.length - i.1) (0, z, true, false) (by kernel_rfl) (fun _ => by kernel_rfl) ⟨by kernel_rfl, by kernel_rfl, by kernel_rfl⟩ ⟨by omega, rfl, .inr ⟨fun k f hk => by dsimp only at hk; omega, rfl, rfl, rfl⟩⟩ ?_
 rintro J ⟨i, fe, dr, ho⟩ hJ u2 m2 l2 ⟨hi, rfl, hI⟩
 simp only at hi hI hJ
 by_cases hlt : i < F.length
 ·refine G.lssT (i : Int) (F.length : Int) (by kernel_rfl) (by omega) ?_
  obtain ⟨f, hFi⟩ : ∃ f, F[i]? = some f := ⟨_, List.getElem?_eq_getElem hlt⟩
  obtain ⟨fb, fo, rfl, ef⟩ := ListP.at' (hF.mono l2) (j := i) (e := featV f) (by simp [hFi])
  obtain ⟨p1, p2, p3⟩ := f
  refine G.addr fb fo F.length ce i 3 (by kernel_rfl) hlt ?_
  refine G.loadU (some 3) fb (fo + i * 3) (.agg #[.int .i64 (p1 : Int), .int .i64 (p2 : Int), .int .i64 (p3 : Int)]) (by kernel_rfl) (by kernel_rfl) ef ?_
  by_cases hp : (p1 : Int) = (a : Int)
  ·refine G.eqlT (p1 : Int) (a : Int) (by kernel_rfl) hp ?_
   have hh := lifI_hit (z := z) hFi (show p1 = a by omega)
   simp only at hh
   by_cases h3 : p3 = 1
   ·refine G.eqlT (p3 : Int) 1 (by kernel_rfl) (by omega) ?_
    by_cases h2 : p2 = 2
    ·refine G.eqlT (p2 : Int) 2 (by kernel_rfl) (by omega) ?_
     refine G.add (i : Int) 1 ((i + 1 : Nat) : Int) (by kernel_rfl) (by omega) (by omega) (by omega) ?_
     rw [decide_eq_true h3, decide_eq_true h2] at hh
     exact G.back (by kernel_rfl) (hJ (i + 1, (i : Int), true, true) _ _ _ ⟨by kernel_rfl, by kernel_rfl, by kernel_rfl⟩ l2 ⟨by dsimp only; omega, rfl, hh⟩ (by dsimp only; omega))
    ·refine G.eqlF (p2 : Int) 2 (by kernel_rfl) (by omega) ?_
     refine G.add (i : Int) 1 ((i + 1 : Nat) : Int) (by kernel_rfl) (by omega) (by omega) (by omega) ?_
     rw [decide_eq_true h3, decide_eq_false h2] at hh
     exact G.back (by kernel_rfl) (hJ (i + 1, (i : Int), true, false) _ _ _ ⟨by kernel_rfl, by kernel_rfl, by kernel_rfl⟩ l2 ⟨by dsimp only; omega, rfl, hh⟩ (by dsimp only; omega))
   ·refine G.eqlF (p3 : Int) 1 (by kernel_rfl) (by omega) ?_
    by_cases h2 : p2 = 2
    ·refine G.eqlT (p2 : Int) 2 (by kernel_rfl) (by omega) ?_
     refine G.add (i : Int) 1 ((i + 1 : Nat) : Int) (by kernel_rfl) (by omega) (by omega) (by omega) ?_
     rw [decide_eq_false h3, decide_eq_true h2] at hh
     exact G.back (by kernel_rfl) (hJ (i + 1, (i : Int), false, true) _ _ _ ⟨by kernel_rfl, by kernel_rfl, by kernel_rfl⟩ l2 ⟨by dsimp only; omega, rfl, hh⟩ (by dsimp only; omega))
    ·refine G.eqlF (p2 : Int) 2 (by kernel_rfl) (by omega) ?_
     refine G.add (i : Int) 1 ((i + 1 : Nat) : Int) (by kernel_rfl) (by omega) (by omega) (by omega) ?_
     rw [decide_eq_false h3, decide_eq_false h2] at hh
     exact G.back (by kernel_rfl) (hJ (i + 1, (i : Int), false, false) _ _ _ ⟨by kernel_rfl, by kernel_rfl, by kernel_rfl⟩ l2 ⟨by dsimp only; omega, rfl, hh⟩ (by dsimp only; omega))
  ·refine G.eqlF (p1 : Int) (a : Int) (by kernel_rfl) hp ?_
   refine G.add (i : Int) 1 ((i + 1 : Nat) : Int) (by kernel_rfl) (by omega) (by omega) (by omega) ?_
   exact G.back (by kernel_rfl) (hJ (i + 1, fe, dr, ho) _ _ _ ⟨by kernel_rfl, by kernel_rfl, by kernel_rfl⟩ l2 ⟨by dsimp only; omega, rfl, lifI_skip hI hFi (show ¬ p1 = a by omega)⟩ (by dsimp only; omega))
 obtain rfl : i = F.length := by omega
 refine G.lssF (F.length : Int) (F.length : Int) (by kernel_rfl) (by omega) ?_
 have n0 : (⟨((0 : Int) : Rat), fun _ => 0, fun _ => 0⟩ : CF) = CF.num 0 := by rw [show ((0 : Int) : Rat) = 0 by decide +kernel]; rfl
 have n1 : (⟨((1 : Int) : Rat), fun _ => 0, fun _ => 0⟩ : CF) = CF.num 1 := by rw [show ((1 : Int) : Rat) = 1 by decide +kernel]; rfl
 rcases lif_end ok.feat l1 ok.l2 hx hv hz hI with ⟨rfl, e⟩ | ⟨hfe, hc⟩
 ·rw [e]
  refine G.eqlT (-2) (-2) (by kernel_rfl) rfl ?_
  refine G.callO _ _ (by kernel_rfl) Tryz.call57 (refEmpty0 (n := 1) (by omega) (by omega)) ?_
  intro v3 u3 m3 l3 k3 _
  obtain ⟨b, a5, n, c, b', a', n', c', g1, g2, rfl⟩ := fulM_opn k3
  rw [mt_or]
  exact G.ret (.agg #[.bool b, .slice a5 n c, .bool b', .slice a' n' c', .map (some g1), .map (some g2)]) (by kernel_rfl) (k3.congr n1 (by omega))
 refine G.eqlF fe (-2) (by kernel_rfl) hfe ?_
 refine G.callO _ _ (by kernel_rfl) Tryz.call57 (refEmpty0 (n := 1) (by omega) (by omega)) ?_
 intro v3 u3 m3 l3 k3 _
 rw [mt_or]
 rcases hc with ⟨rfl, e⟩ | ⟨rfl, ht, e⟩ | ⟨rfl, ht, q1, q2, e⟩
 ·rw [e]
  obtain ⟨b, a5, n, c, b', a', n', c', g1, g2, o1, o2, rfl, k1, hne, rfl, s1, s2⟩ := k3
  have hpp : pairP (fe, t) (fe, t) = ((fe, t), (fe, t)) := pairP_le (by rw [ordP.refl]; omega)
  refine G.call0 _ _ (by kernel_rfl) Tryz.call62 (refOf0 (z := 1) (by omega) (by omega)) ?_
  intro v4 u4 l4 k4
  rw [show ((1 : Int) : Rat) = 1 by decide +kernel] at k4
  obtain ⟨b4, a4, n4, c4, a4', n4', c4', rfl, _⟩ := k4.opn
  refine G.callG _ _ (by kernel_rfl) (by kernel_rfl) Tryz.call115 (g := g1) (o := o1) (by rw [upd_ne _ _ hne, upd_same])
   (refSumM0 (a := (fe, t)) (g2 := some g2) (y1 := b) (y2 := (a5, n, c)) (y3 := b') (y4 := (a', n', c')) (s1.mono l4) k4 smR_one.sb SB.zero (by rw [add0]; exact smR_one.sb)) ?_
  intro v5 u5 o1' l5 k5
  refine G.call0 _ _ (by kernel_rfl) Tryz.call62 (refOf0 (z := 1) (by omega) (by omega)) ?_
  intro v6 u6 l6 k6
  rw [show ((1 : Int) : Rat) = 1 by decide +kernel] at k6
  obtain ⟨b6, a6, n6, c6, a6', n6', c6', rfl, _⟩ := k6.opn
  refine G.callG _ _ (by kernel_rfl) (by kernel_rfl) Tryz.call116 (g := g2) (o := o2) (by rw [upd_ne _ _ hne.symm, upd_same])
   (refProdM0 (p := (fe, t)) (r := (fe, t)) (g1 := some g1) (y1 := b) (y2 := (a5, n, c)) (y3 := b') (y4 := (a', n', c')) (((s2.mono l4).mono l5).mono l6) k6 smR_one.sb (by rw [hpp]; exact SB.zero) (by rw [hpp, add0]; exact smR_one.sb)) ?_
  intro v7 u7 o2' l7 k7
  rw [two_upd hne]
  rw [hpp] at k7
  exact G.ret (.agg #[.bool b, .slice a5 n c, .bool b', .slice a' n' c', .map (some g1), .map (some g2)]) (by kernel_rfl) ⟨b, a5, n, c, b', a', n', c', g1, g2, _, _, rfl, (((k1.mono l4).mono l5).mono l6).mono l7, hne, rfl, ((k5.mono l6).mono l7).congr fun k => by rw [add0]; rfl, k7.congr fun k => by
   rw [add0]
   show (if k = ((fe, t), (fe, t)) then (1 : Rat) else 0) = if k = ((fe, t), (fe, t)) then (1 : Rat) * 1 else 0
   rw [show (1 : Rat) * 1 = 1 by decide +kernel]⟩
 ·obtain ⟨b, a5, n, c, b', a', n', c', g1, g2, rfl⟩ := fulM_opn k3
  refine G.eqST t [] (by kernel_rfl) ht ?_
  rw [e]
  cases dr with
  | true =>
   refine G.drop PH.mt (by kernel_rfl) (PH.mt_le _) ?_
   refine G.callO _ _ (by kernel_rfl) Tryz.call57 (refEmpty0 (n := 0) (by omega) (by omega)) ?_
   intro v4 u4 m4 l4 k4 _
   obtain ⟨b, a5, n, c, b', a', n', c', g1, g2, rfl⟩ := fulM_opn k4
   rw [mt_or]
   exact G.ret (.agg #[.bool b, .slice a5 n c, .bool b', .slice a' n' c', .map (some g1), .map (some g2)]) (by kernel_rfl) (k4.congr n0 (by omega))
  | false =>
   exact G.ret (.agg #[.bool b, .slice a5 n c, .bool b', .slice a' n' c', .map (some g1), .map (some g2)]) (by kernel_rfl) (k3.congr n1 (by omega))
 ·rw [e]
  obtain ⟨b, a5, n, c, b', a', n', c', g1, g2, o1, o2, rfl, k1, hne, rfl, s1, s2⟩ := k3
  refine G.eqSF t [] (by kernel_rfl) ht ?_
  have hpp : pairP (fe, []) (fe, []) = ((fe, []), (fe, [])) := pairP_le (by rw [ordP.refl]; omega)
  have hrd := refReadT (u := u3) (q := numT t) (SB.tx q1.sb)
  rw [q2] at hrd
  refine G.call0 _ _ (by kernel_rfl) Tryz.call60 hrd ?_
  intro v4 u4 l4 k4
  obtain ⟨b4, a4, n4, c4, a4', n4', c4', rfl, _⟩ := k4.opn
  refine G.callG _ _ (by kernel_rfl) (by kernel_rfl) Tryz.call115 (g := g1) (o := o1) (by rw [upd_ne _ _ hne, upd_same])
   (refSumM0 (a := (fe, [])) (g2 := some g2) (y1 := b) (y2 := (a5, n, c)) (y3 := b') (y4 := (a', n', c')) (s1.mono l4) k4 q1.sb SB.zero (by rw [add0]; exact q1.sb)) ?_
  intro v5 u5 o1' l5 k5
  refine G.call0 _ _ (by kernel_rfl) Tryz.call114 (refMul0 (k4.mono l5) (k4.mono l5) (SB.ten q1.sb) (SB.ten q1.sb)) ?_
  intro v6 u6 l6 k6
  obtain ⟨b6, a6, n6, c6, a6', n6', c6', rfl, _⟩ := k6.opn
  refine G.callG _ _ (by kernel_rfl) (by kernel_rfl) Tryz.call116 (g := g2) (o := o2) (by rw [upd_ne _ _ hne.symm, upd_same])
   (refProdM0 (p := (fe, [])) (r := (fe, [])) (g1 := some g1) (y1 := b) (y2 := (a5, n, c)) (y3 := b') (y4 := (a', n', c')) (((s2.mono l4).mono l5).mono l6) k6 q1.sb2 (by rw [hpp]; exact SB.zero) (by rw [hpp, add0]; exact q1.sb2)) ?_
  intro v7 u7 o2' l7 k7
  rw [two_upd hne]
  rw [hpp] at k7
  exact G.ret (.agg #[.bool b, .slice a5 n c, .bool b', .slice a' n' c', .map (some g1), .map (some g2)]) (by kernel_rfl) ⟨b, a5, n, c, b', a', n', c', g1, g2, _, _, rfl, (((k1.mono l4).mono l5).mono l6).mono l7, hne, rfl, ((k5.mono l6).mono l7).congr fun k => by rw [add0]; rfl, k7.congr fun k => by rw [add0]; rfl⟩
end Go.Proofs.YtpdboaedoimahaaGreatDoor
end
section
set_option linter.unusedSectionVars false
set_option linter.unusedVariables false
namespace Go.Proofs.YtpdboaedoimahaaGreatDoor
open Go.RowKit Go.MapKept
theorem FulM.all {f : FuncId} {args : List Value} {u : PH} {F : CF} {N : Nat} (c : Contract Tryz.prog f args u PH.mt fun v u' m' => FulM m' u' v F N) : Fn0 Tryz.prog f args u fun v u' => FulP u' v F N := by
 refine Fn0.weak c.giveAll ?_
 rintro v u' ⟨u1, m1, l1, l2, k⟩
 exact k.give l1 l2
theorem FulP.up {u : PH} {v : Value} {F : CF} {N M : Nat} (h : FulP u v F N) (hN : N ≤ M) : FulP u v F M := by
 obtain ⟨b, a, n, c, b', a', n', c', g1, g2, o1, o2, e, h1, h2, h3, h4, h5⟩ := h
 exact ⟨b, a, n, c, b', a', n', c', g1, g2, o1, o2, e, h1, h2, h3, h4.up hN, h5.up hN⟩
set_option maxHeartbeats 2000000 in
theorem refFull0 {u : PH} {v tv : Value} {T : List (List UInt8 × Nat)} {R : List SRel} {F : List Feat} {lab : Int} {ss : List (List UInt8)} (h : TupP u v tv T R F lab ss) (hT6 : ss.length ≤ 8) :
  Fn0 Tryz.prog 53 [v, tv] u fun r u' => FulP u' r (cfT F lab ss) 255 ∧ CFS (cfT F lab ss) := by
 have hX := h.sch
 obtain ⟨⟨xa, xc, xb, xd, xe, xf, rfl, hTL, hRL, hFL⟩, ok, hS, hT⟩ := h
 obtain ⟨ya, yc, rfl⟩ := hS.opn
 rw [List.length_map] at hS ⊢
 have hsm := lifts_small ok hT
 have hlen := hT.len
 obtain ⟨L, hL⟩ : ∃ L, L = lifts F lab ss := ⟨_, rfl⟩
 have hcf : cfT F lab ss = prdL (CF.num 1) L := by rw [hL]; rfl
 rw [hcf]
 rw [← hL] at hsm
 have hLl : L.length = ss.length := by rw [hL]; exact lifts_len
 refine Fn0.of Tryz.func53 (by kernel_rfl) (by kernel_rfl) ?_
 refine G.call0 _ _ (by kernel_rfl) Tryz.call57 (FulM.all (refEmpty0 (n := 1) (by omega) (by omega))) ?_
 intro v2 u2 l2 k2
 have n1 : (⟨((1 : Int) : Rat), fun _ => 0, fun _ => 0⟩ : CF) = CF.num 1 := by rw [show ((1 : Int) : Rat) = 1 by decide +kernel]; rfl
 rw [n1] at k2
 obtain ⟨b, a, n, c, b', a', n', c', g1, g2, rfl⟩ := fulP_opn k2
 refine G.loop (ι := Nat × (Bool × SlI) × (Bool × SlI) × Nat × Nat) (fun i => [(2, .p 0 0), (4, .p 1 0), (5, .p 1001 0), (9, .v (.slice ya ss.length yc)), (10, .v (.int .i64 (ss.length : Int))), (11, .v (.int .i64 (i.1 : Int)))])
  (fun i => [(0, ⟨30, [.v (.slice xa T.length xc), .v (.slice xb R.length xd), .v (.slice xe F.length xf), .v (.int .i64 lab)]⟩), (1, ⟨128, [.v (.bool false), .v (.slice none 0 0), .v (.bool false), .v (.slice none 0 0), .v (.map none), .v (.map none)]⟩), (1001, ⟨128, [.v (.bool i.2.1.1), .v (.slice i.2.1.2.1 i.2.1.2.2.1 i.2.1.2.2.2), .v (.bool i.2.2.1.1), .v (.slice i.2.2.1.2.1 i.2.2.1.2.2.1 i.2.2.1.2.2.2), .v (.map (some i.2.2.2.1)), .v (.map (some i.2.2.2.2))]⟩)])
  (fun i u' m' => i.1 ≤ ss.length ∧ FulP u' (.agg #[.bool i.2.1.1, .slice i.2.1.2.1 i.2.1.2.2.1 i.2.1.2.2.2, .bool i.2.2.1.1, .slice i.2.2.1.2.1 i.2.2.1.2.2.1 i.2.2.1.2.2.2, .map (some i.2.2.2.1), .map (some i.2.2.2.2)]) (prdL (CF.num 1) (L.take i.1)) (2 ^ i.1 - 1) ∧ m' = PH.mt)
  (fun i => ss.length - i.1) (0, (b, a, n, c), (b', a', n', c'), g1, g2) (by kernel_rfl) (fun _ => by kernel_rfl) ⟨by kernel_rfl, by kernel_rfl, by kernel_rfl⟩ ⟨by omega, k2, rfl⟩ ?_
 rintro J ⟨i, ⟨b, a, n, c⟩, ⟨b', a', n', c'⟩, g1, g2⟩ hJ u3 m3 l3 ⟨hi, hC, rfl⟩
 simp only at hi hC hJ
 have le3 := l2.trans l3
 by_cases hil : i < ss.length
 ·refine G.lssT (i : Int) (ss.length : Int) (by kernel_rfl) (by omega) ?_
  obtain ⟨bb, off, rfl, e⟩ := text_at (hS.mono le3) hil
  refine G.addr bb off ss.length yc i 1 (by kernel_rfl) hil ?_
  refine G.loadU none bb (off + i * 1) (.string (mkS (ss.getD i []))) (by kernel_rfl) (by kernel_rfl) e ?_
  have hgd : ss.getD i [] = ss[i] := by simp [List.getD_eq_getElem?_getD, List.getElem?_eq_getElem hil]
  have hTi : T[i]? = some T[i] := List.getElem?_eq_getElem (by omega)
  have hLi : L[i]? = some (attO F lab i (ss.getD i [])) := by rw [hL, hgd]; exact lifts_at (List.getElem?_eq_getElem hil)
  have hLs : (attO F lab i (ss.getD i [])).Small := hsm _ (List.mem_of_getElem? hLi)
  have hv := hT.val i _ _ hTi (List.getElem?_eq_getElem hil)
  rw [← hgd] at hv
  refine G.call0 _ _ (by kernel_rfl) Tryz.call106 (FulM.all (refLifted0 (hX.mono le3) (ok.mono le3) hTi hv)) ?_
  intro v4 u4 l4 k4
  obtain ⟨b4, a4, n4, c4, b4', a4', n4', c4', g41, g42, rfl⟩ := fulP_opn k4
  have h2i : 2 ^ i ≤ 2 ^ 7 := Nat.pow_le_pow_right (by omega) (by omega)
  have h1i : 1 ≤ 2 ^ i := Nat.one_le_two_pow
  obtain ⟨g1', g2'⟩ := prdL_cfd hsm i (by omega)
  have hsnoc : prdL (CF.num 1) (L.take (i + 1)) = (prdL (CF.num 1) (L.take i)).mul (attO F lab i (ss.getD i [])).cf := by
   rw [List.take_add_one, hLi]; exact prdL_snoc _ _ _
  refine G.call0 _ _ (by kernel_rfl) Tryz.call105 (FulM.all (refMulF0 (hC.mono l4) k4 (mulOK g1' hLs.cfd (by omega) (pow8' (by omega)) (Nat.pos_of_ne_zero (by simp)) (by omega)))) ?_
  intro v5 u5 l5 k5
  obtain ⟨b5, a5, n5, c5, b5', a5', n5', c5', g51, g52, rfl⟩ := fulP_opn k5
  refine G.add (i : Int) 1 ((i + 1 : Nat) : Int) (by kernel_rfl) (by omega) (by omega) (by omega) ?_
  rw [← hsnoc] at k5
  exact G.back (by kernel_rfl) (hJ (i + 1, (b5, a5, n5, c5), (b5', a5', n5', c5'), g51, g52) _ _ _ ⟨by kernel_rfl, by kernel_rfl, by kernel_rfl⟩ ((l3.trans l4).trans l5) ⟨by dsimp only; omega, k5.up (by dsimp only; rw [Nat.pow_succ]; omega), rfl⟩ (by dsimp only; omega))
 ·obtain rfl : i = ss.length := by omega
  refine G.lssF (ss.length : Int) (ss.length : Int) (by kernel_rfl) (by omega) ?_
  have htk : L.take ss.length = L := by rw [List.take_of_length_le (by omega)]
  have hsR : CFS (prdL (CF.num 1) L) := by
   obtain ⟨q1, _⟩ := prdL_cfd hsm L.length (Nat.le_refl _)
   rw [List.take_length] at q1
   exact q1.cfs (by omega) (pow8 (by omega))
  rw [htk] at hC
  have h2i : 2 ^ ss.length ≤ 2 ^ 8 := Nat.pow_le_pow_right (by omega) (by omega)
  exact G.ret (.agg #[.bool b, .slice a n c, .bool b', .slice a' n' c', .map (some g1), .map (some g2)]) (by kernel_rfl) ⟨rfl, hC.up (by omega), hsR⟩
set_option maxHeartbeats 1000000 in
theorem refCof0 {u : PH} {v tv : Value} {T : List (List UInt8 × Nat)} {R : List SRel} {F : List Feat} {lab : Int} {ss : List (List UInt8)} (h : TupP u v tv T R F lab ss) (hT6 : ss.length ≤ 8) :
  Fn0 Tryz.prog 27 [v, tv] u fun r u' => RngP u' r (cfT F lab ss) 255 := by
 have htu := refTuple0 h
 have hfu := fun (u' : PH) (l : PH.le u u') => refFull0 (h.mono l) hT6
 obtain ⟨⟨xa, xc, xb, xd, xe, xf, rfl, hTL, hRL, hFL⟩, ok, hS, hT⟩ := h
 obtain ⟨ya, yc, rfl⟩ := hS.opn
 rw [List.length_map] at hS htu hfu ⊢
 refine Fn0.of Tryz.func27 (by kernel_rfl) (by kernel_rfl) ?_
 refine G.call0 _ _ (by kernel_rfl) Tryz.call52 htu ?_
 rintro v1 u1 l1 rfl
 refine G.neqF 0 0 (by kernel_rfl) (by omega) ?_
 refine G.call0 _ _ (by kernel_rfl) Tryz.call53 (hfu u1 l1) ?_
 rintro v2 u2 l2 ⟨k2, sF⟩
 refine G.callK _ _ (by kernel_rfl) Tryz.call54 (refGiveF0 k2.i sF (by omega)) ?_
 rintro v3 u3 l3 ⟨r, rfl, k3⟩
 obtain ⟨e1, f1, h1, e2, f2, h2, rfl⟩ := k3.opn
 exact G.ret (.tuple #[.agg #[.string (mkS (ratT (cfT F lab ss).c)), .slice e1 f1 h1, .slice e2 f2 h2], .int .i64 0]) (by kernel_rfl) ⟨rfl, _, rfl, k3⟩
end Go.Proofs.YtpdboaedoimahaaGreatDoor
end
section
set_option linter.unusedSectionVars false
set_option linter.unusedVariables false
namespace Go.Proofs.YtpdboaedoimahaaGreatDoor
open Go.RowKit Go.MapKept
theorem refNamed0 {u : PH} {p : Par} (h : PV p) : Fn0 Tryz.prog 111 [parV p] u fun v _ => v = .bool true := by
 refine Fn0.of Tryz.func111 (by kernel_rfl) (by kernel_rfl) ?_
 refine G.geqT p.1 (-1) (by kernel_rfl) (by have := h.lo; omega) ?_
 by_cases hc : p.2 = []
 ·refine G.eqST p.2 [] (by kernel_rfl) hc ?_
  exact G.ret (.bool true) (by kernel_rfl) ⟨rfl, rfl⟩
 ·refine G.eqSF p.2 [] (by kernel_rfl) hc ?_
  refine G.call0 _ _ (by kernel_rfl) Tryz.call164 (refWord0 (h.cat.resolve_left hc)) ?_
  rintro v1 u1 l1 rfl
  exact G.ret (.bool true) (by kernel_rfl) ⟨rfl, rfl⟩
theorem ElP.par {u : PH} {b off : Nat} {x : Par × Rat} (h : ElP u b off (termV x)) : ElP u b (off + 0) (.agg #[.int .i64 x.1.1, .string (mkS x.1.2)]) := h.sub fun i y hy => by
 match i, hy with
 | 0, hy => simpa [termV, Value.cells] using hy
 | 1, hy => simpa [termV, Value.cells] using hy
 | i + 2, hy => simp [Value.cells] at hy
set_option maxHeartbeats 4000000 in
theorem refValidC0 {u : PH} {v : Value} {F : CF} {K : Nat} (h : CofP u v F K) (sF : CFS F) (vF : CFV F) (hK : K ≤ 1000000) : Fn0 Tryz.prog 55 [v] u fun r _ => r = .bool true := by
 obtain ⟨T, Q, a1, c1, a2, c2, rfl, hT, hQ, cT, cQ, kT, kQ⟩ := h
 refine Fn0.of Tryz.func55 (by kernel_rfl) (by kernel_rfl) ?_
 refine G.call0 _ _ (by kernel_rfl) Tryz.call56 (refValid0 (SB.tx sF.c)) ?_
 rintro v1 u1 l1 rfl
 refine G.loop (ι := Nat) (fun i => [(1, .p 0 0), (12, .v (.slice a1 T.length c1)), (13, .v (.int .i64 (T.length : Int))), (14, .v (.int .i64 (i : Int)))])
  (fun _ => [(0, ⟨38, [.v (.string (mkS (ratT F.c))), .v (.slice a1 T.length c1), .v (.slice a2 Q.length c2)]⟩)])
  (fun i u' m' => i ≤ T.length ∧ m' = PH.mt) (fun i => T.length - i) 0 (by kernel_rfl) (fun _ => by kernel_rfl) ⟨by kernel_rfl, by kernel_rfl, by kernel_rfl⟩ ⟨by omega, rfl⟩ ?_
 rintro J i hJ u2 m2 l2 ⟨hi, rfl⟩
 have le2 := l1.trans l2
 by_cases hlt : i < T.length
 ·refine G.lssT (i : Int) (T.length : Int) (by kernel_rfl) (by omega) ?_
  obtain ⟨x, hTi⟩ : ∃ x, T[i]? = some x := ⟨_, List.getElem?_eq_getElem hlt⟩
  have hmem := List.mem_of_getElem? hTi
  obtain ⟨hval, hne⟩ := cT.val _ hmem
  obtain ⟨ba, oa, rfl, ea⟩ := ListP.at' (hT.mono le2) (j := i) (e := termV x) (by simp [hTi])
  have hsq : SB x.2 := by rw [hval]; exact sF.s _
  have hpv : PV x.1 := vF.s x.1 (by rw [← hval]; exact hne)
  refine G.addr ba oa T.length c1 i 3 (by kernel_rfl) hlt ?_
  refine G.loadU (some 3) ba (oa + i * 3) (.agg #[.int .i64 x.1.1, .string (mkS x.1.2), .string (mkS (ratT x.2))]) (by kernel_rfl) (by kernel_rfl) ea ?_
  refine G.call0 _ _ (by kernel_rfl) Tryz.call111 (refNamed0 hpv) ?_
  rintro v3 u3 l3 rfl
  refine G.call0 _ _ (by kernel_rfl) Tryz.call56 (refValid0 (SB.tx hsq)) ?_
  rintro v4 u4 l4 rfl
  refine G.eqSF (ratT x.2) [48] (by kernel_rfl) (ratT_ne0 hne) ?_
  by_cases h0 : i = 0
  ·subst h0
   refine G.gtrF ((0 : Nat) : Int) 0 (by kernel_rfl) (by omega) ?_
   refine G.add ((0 : Nat) : Int) 1 ((0 + 1 : Nat) : Int) (by kernel_rfl) (by omega) (by omega) (by omega) ?_
   exact G.back (by kernel_rfl) (hJ (0 + 1) _ _ _ ⟨by kernel_rfl, by kernel_rfl, by kernel_rfl⟩ ((l2.trans l3).trans l4) ⟨by omega, rfl⟩ (by omega))
  ·refine G.gtrT (i : Int) 0 (by kernel_rfl) (by omega) ?_
   refine G.sub (i : Int) 1 ((i - 1 : Nat) : Int) (by kernel_rfl) (by omega) (by omega) (by omega) ?_
   obtain ⟨y, hTy⟩ : ∃ y, T[i - 1]? = some y := ⟨_, List.getElem?_eq_getElem (by omega)⟩
   have hsrt : cmpP y.1 x.1 < 0 := by
    have hp := cT.srt
    obtain ⟨h1, rfl⟩ := List.getElem?_eq_some_iff.1 hTi
    obtain ⟨h2, rfl⟩ := List.getElem?_eq_some_iff.1 hTy
    have := List.pairwise_iff_getElem.1 hp (i - 1) i (by rw [List.length_map]; omega) (by rw [List.length_map]; omega) (by omega)
    rw [List.getElem_map, List.getElem_map] at this
    exact this
   obtain ⟨bb, ob, e1, eb⟩ := ListP.at' (hT.mono ((le2.trans l3).trans l4)) (j := i - 1) (e := termV y) (by simp [hTy])
   cases e1
   refine G.addr ba oa T.length c1 (i - 1) 3 (by kernel_rfl) (by omega) ?_
   refine G.fieldA 57 ba (oa + (i - 1) * 3) 0 0 (by kernel_rfl) (by kernel_rfl) ?_
   refine G.loadU (some 2) ba (oa + (i - 1) * 3 + 0) (.agg #[.int .i64 y.1.1, .string (mkS y.1.2)]) (by kernel_rfl) (by kernel_rfl) eb.par ?_
   refine G.call0 _ _ (by kernel_rfl) Tryz.call109 (refLess0 y.1 x.1 true (decide_eq_true hsrt)) ?_
   rintro v5 u5 l5 rfl
   refine G.add (i : Int) 1 ((i + 1 : Nat) : Int) (by kernel_rfl) (by omega) (by omega) (by omega) ?_
   exact G.back (by kernel_rfl) (hJ (i + 1) _ _ _ ⟨by kernel_rfl, by kernel_rfl, by kernel_rfl⟩ (((l2.trans l3).trans l4).trans l5) ⟨by omega, rfl⟩ (by omega))
 obtain rfl : i = T.length := by omega
 refine G.lssF (T.length : Int) (T.length : Int) (by kernel_rfl) (by omega) ?_
 clear hJ
 refine G.loop (ι := Nat) (fun i => [(1, .p 0 0), (53, .v (.slice a2 Q.length c2)), (54, .v (.int .i64 (Q.length : Int))), (55, .v (.int .i64 (i : Int)))])
  (fun _ => [(0, ⟨38, [.v (.string (mkS (ratT F.c))), .v (.slice a1 T.length c1), .v (.slice a2 Q.length c2)]⟩)])
  (fun i u' m' => i ≤ Q.length ∧ m' = PH.mt) (fun i => Q.length - i) 0 (by kernel_rfl) (fun _ => by kernel_rfl) ⟨by kernel_rfl, by kernel_rfl, by kernel_rfl⟩ ⟨by omega, rfl⟩ ?_
 rintro J i hJ u3 m3 l3 ⟨hi, rfl⟩
 have le3 := le2.trans l3
 by_cases hlt : i < Q.length
 ·refine G.lssT (i : Int) (Q.length : Int) (by kernel_rfl) (by omega) ?_
  obtain ⟨x, hQi⟩ : ∃ x, Q[i]? = some x := ⟨_, List.getElem?_eq_getElem hlt⟩
  have hmem := List.mem_of_getElem? hQi
  obtain ⟨hval, hne⟩ := cQ.val _ hmem
  obtain ⟨ba, oa, rfl, ea⟩ := ListP.at' (hQ.mono le3) (j := i) (e := prtV x) (by simp [hQi])
  have hsq : SB x.2 := by rw [hval]; exact sF.t _
  obtain ⟨hp1, hp2, hord⟩ := vF.t x.1 (by rw [← hval]; exact hne)
  refine G.addr ba oa Q.length c2 i 5 (by kernel_rfl) hlt ?_
  refine G.loadU (some 5) ba (oa + i * 5) (.agg #[.int .i64 x.1.1.1, .string (mkS x.1.1.2), .int .i64 x.1.2.1, .string (mkS x.1.2.2), .string (mkS (ratT x.2))]) (by kernel_rfl) (by kernel_rfl) ea ?_
  refine G.call0 _ _ (by kernel_rfl) Tryz.call111 (refNamed0 hp1) ?_
  rintro v3 u4 l4 rfl
  refine G.call0 _ _ (by kernel_rfl) Tryz.call111 (refNamed0 hp2) ?_
  rintro v4 u5 l5 rfl
  refine G.call0 _ _ (by kernel_rfl) Tryz.call109 (refLess0 x.1.2 x.1.1 false (decide_eq_false fun e => hord ((ordP.sym _ _).1 e))) ?_
  rintro v5 u6 l6 rfl
  refine G.call0 _ _ (by kernel_rfl) Tryz.call56 (refValid0 (SB.tx hsq)) ?_
  rintro v6 u7 l7 rfl
  refine G.eqSF (ratT x.2) [48] (by kernel_rfl) (ratT_ne0 hne) ?_
  by_cases h0 : i = 0
  ·subst h0
   refine G.gtrF ((0 : Nat) : Int) 0 (by kernel_rfl) (by omega) ?_
   refine G.add ((0 : Nat) : Int) 1 ((0 + 1 : Nat) : Int) (by kernel_rfl) (by omega) (by omega) (by omega) ?_
   exact G.back (by kernel_rfl) (hJ (0 + 1) _ _ _ ⟨by kernel_rfl, by kernel_rfl, by kernel_rfl⟩ ((((l3.trans l4).trans l5).trans l6).trans l7) ⟨by omega, rfl⟩ (by omega))
  ·refine G.gtrT (i : Int) 0 (by kernel_rfl) (by omega) ?_
   refine G.sub (i : Int) 1 ((i - 1 : Nat) : Int) (by kernel_rfl) (by omega) (by omega) (by omega) ?_
   obtain ⟨y, hQy⟩ : ∃ y, Q[i - 1]? = some y := ⟨_, List.getElem?_eq_getElem (by omega)⟩
   have hsrt : cmpQ y.1 x.1 < 0 := by
    have hp := cQ.srt
    obtain ⟨h1, rfl⟩ := List.getElem?_eq_some_iff.1 hQi
    obtain ⟨h2, rfl⟩ := List.getElem?_eq_some_iff.1 hQy
    have := List.pairwise_iff_getElem.1 hp (i - 1) i (by rw [List.length_map]; omega) (by rw [List.length_map]; omega) (by omega)
    rw [List.getElem_map, List.getElem_map] at this
    exact this
   obtain ⟨bb, ob, e1, eb⟩ := ListP.at' (hQ.mono ((((le3.trans l4).trans l5).trans l6).trans l7)) (j := i - 1) (e := prtV y) (by simp [hQy])
   cases e1
   refine G.addr ba oa Q.length c2 (i - 1) 5 (by kernel_rfl) (by omega) ?_
   refine G.loadU (some 5) ba (oa + (i - 1) * 5) (prtV y) (by kernel_rfl) (by kernel_rfl) eb ?_
   refine G.call0 _ _ (by kernel_rfl) Tryz.call110 (refBefore0 y x true (decide_eq_true hsrt)) ?_
   rintro v5 u8 l8 rfl
   refine G.add (i : Int) 1 ((i + 1 : Nat) : Int) (by kernel_rfl) (by omega) (by omega) (by omega) ?_
   exact G.back (by kernel_rfl) (hJ (i + 1) _ _ _ ⟨by kernel_rfl, by kernel_rfl, by kernel_rfl⟩ (((((l3.trans l4).trans l5).trans l6).trans l7).trans l8) ⟨by omega, rfl⟩ (by omega))
 obtain rfl : i = Q.length := by omega
 refine G.lssF (Q.length : Int) (Q.length : Int) (by kernel_rfl) (by omega) ?_
 exact G.ret (.bool true) (by kernel_rfl) ⟨rfl, rfl⟩
end Go.Proofs.YtpdboaedoimahaaGreatDoor
end
section
set_option linter.unusedSectionVars false
set_option linter.unusedVariables false
namespace Go.Proofs.YtpdboaedoimahaaGreatDoor
open Go.RowKit Go.MapKept
theorem cf_zero_add (F : CF) : (⟨((0 : Int) : Rat), fun _ => 0, fun _ => 0⟩ : CF).add F = F := by
 rw [show ((0 : Int) : Rat) = 0 by decide +kernel]
 exact (CF.add_comm _ F).trans (CF.add_zero F)
set_option maxHeartbeats 2000000 in
theorem refScaleC0 {u : PH} {v : Value} {F : CF} {K : Nat} {q : Rat} (h : CofP u v F K) (sF : CFS F) (vF : CFV F) (hK : K ≤ 1000000) (hq : SB q) (sK : CFS (F.scale q)) :
  Fn0 Tryz.prog 28 [v, .string (mkS (ratT q))] u fun r u' => RngP u' r (F.scale q) K := by
 obtain ⟨a1, n1, c1, a2, n2, c2, rfl⟩ := h.opn
 refine Fn0.of Tryz.func28 (by kernel_rfl) (by kernel_rfl) ?_
 refine G.call0 _ _ (by kernel_rfl) Tryz.call55 (refValidC0 h sF vF hK) ?_
 rintro v1 u1 l1 rfl
 refine G.call0 _ _ (by kernel_rfl) Tryz.call56 (refValid0 (SB.tx hq)) ?_
 rintro v2 u2 l2 rfl
 refine G.callO _ _ (by kernel_rfl) Tryz.call57 (refEmpty0 (n := 0) (by omega) (by omega)) ?_
 intro v3 u3 m3 l3 k3 _
 obtain ⟨b3, a3, n3, c3, b3', a3', n3', c3', g1, g2, rfl⟩ := fulM_opn k3
 rw [mt_or]
 refine G.call0 _ _ (by kernel_rfl) Tryz.call59 (FulM.all (refReadF0 (((h.mono l1).mono l2).mono l3) sF vF hK)) ?_
 intro v4 u4 l4 k4
 obtain ⟨b4, a4, n4, c4, b4', a4', n4', c4', g3, g4, rfl⟩ := fulP_opn k4
 refine G.call0 _ _ (by kernel_rfl) Tryz.call60 (refReadT (SB.tx hq)) ?_
 intro v5 u5 l5 k5
 obtain ⟨b5, a5, n5, c5, a5', n5', c5', rfl, _⟩ := k5.opn
 refine G.callA _ _ (by kernel_rfl) (by kernel_rfl) Tryz.call58 (mt_or m3).symm (apart_mt m3)
  (refAddF0 ((k3.grow l4).grow l5) (k4.mono l5) k5 hq ⟨SB.zero, fun _ => SB.zero, fun _ => SB.zero⟩ sF sK (by rw [cf_zero_add]; exact sK)) ?_
 intro v6 u6 m6 l6 k6 _
 rw [cf_zero_add] at k6
 rw [mt_or]
 obtain ⟨b6, a6, n6, c6, b6', a6', n6', c6', g5, g6, rfl⟩ := fulM_opn k6
 refine G.callK _ _ (by kernel_rfl) Tryz.call54 (refGiveF0 k6.i sK (by omega)) ?_
 rintro v7 u7 l7 ⟨r, rfl, k7⟩
 obtain ⟨e1, f1, h1, e2, f2, h2, rfl⟩ := k7.opn
 refine G.drop PH.mt (by kernel_rfl) (PH.mt_le _) ?_
 exact G.ret (.tuple #[.agg #[.string (mkS (ratT (F.scale q).c)), .slice e1 f1 h1, .slice e2 f2 h2], .int .i64 0]) (by kernel_rfl) ⟨rfl, _, rfl, k7.up (by omega)⟩
set_option maxHeartbeats 2000000 in
theorem refAddC0 {u : PH} {v w : Value} {F H : CF} {K M : Nat} (h : CofP u v F K) (sF : CFS F) (vF : CFV F) (hK : K ≤ 500000) (h' : CofP u w H M) (sH : CFS H) (vH : CFV H) (hM : M ≤ 500000) (sR : CFS (F.add H)) :
  Fn0 Tryz.prog 30 [v, w] u fun r u' => RngP u' r (F.add H) (K + M) := by
 obtain ⟨a1, n1, c1, a2, n2, c2, rfl⟩ := h.opn
 obtain ⟨x1, y1, z1, x2, y2, z2, rfl⟩ := h'.opn
 have h1 : H.scale 1 = H := CF.ext' (by simp only [CF.scale]; grind) (fun p => by simp only [CF.scale]; grind) (fun p => by simp only [CF.scale]; grind)
 refine Fn0.of Tryz.func30 (by kernel_rfl) (by kernel_rfl) ?_
 refine G.call0 _ _ (by kernel_rfl) Tryz.call55 (refValidC0 h sF vF (by omega)) ?_
 rintro v1 u1 l1 rfl
 refine G.call0 _ _ (by kernel_rfl) Tryz.call55 (refValidC0 (h'.mono l1) sH vH (by omega)) ?_
 rintro v2 u2 l2 rfl
 refine G.callO _ _ (by kernel_rfl) Tryz.call59 (refReadF0 ((h.mono l1).mono l2) sF vF (by omega)) ?_
 intro v3 u3 m3 l3 k3 _
 obtain ⟨b3, a3, n3, c3, b3', a3', n3', c3', g1, g2, rfl⟩ := fulM_opn k3
 rw [mt_or]
 refine G.call0 _ _ (by kernel_rfl) Tryz.call59 (FulM.all (refReadF0 (((h'.mono l1).mono l2).mono l3) sH vH (by omega))) ?_
 intro v4 u4 l4 k4
 obtain ⟨b4, a4, n4, c4, b4', a4', n4', c4', g3, g4, rfl⟩ := fulP_opn k4
 refine G.call0 _ _ (by kernel_rfl) Tryz.call62 (refOf0 (z := 1) (by omega) (by omega)) ?_
 intro v5 u5 l5 k5
 rw [show ((1 : Int) : Rat) = 1 by decide +kernel] at k5
 obtain ⟨b5, a5, n5, c5, a5', n5', c5', rfl, _⟩ := k5.opn
 refine G.callA _ _ (by kernel_rfl) (by kernel_rfl) Tryz.call58 (mt_or m3).symm (apart_mt m3)
  (refAddF0 ((k3.grow l4).grow l5) (k4.mono l5) k5 smR_one.sb sF sH (by rw [h1]; exact sH) (by rw [h1]; exact sR)) ?_
 intro v6 u6 m6 l6 k6 _
 rw [h1] at k6
 rw [mt_or]
 obtain ⟨b6, a6, n6, c6, b6', a6', n6', c6', g5, g6, rfl⟩ := fulM_opn k6
 refine G.callK _ _ (by kernel_rfl) Tryz.call54 (refGiveF0 k6.i sR (by omega)) ?_
 rintro v7 u7 l7 ⟨r, rfl, k7⟩
 obtain ⟨e1, f1, h1, e2, f2, h2, rfl⟩ := k7.opn
 refine G.drop PH.mt (by kernel_rfl) (PH.mt_le _) ?_
 exact G.ret (.tuple #[.agg #[.string (mkS (ratT (F.add H).c)), .slice e1 f1 h1, .slice e2 f2 h2], .int .i64 0]) (by kernel_rfl) ⟨rfl, _, rfl, k7⟩
end Go.Proofs.YtpdboaedoimahaaGreatDoor
end
