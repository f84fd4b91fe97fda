/- Joined out of parts of one proof by a program: contracts of the functions that the statement reaches, and the plain facts behind them. -/
import Derived.Test.YtikfmknnbjocmaaGreatDoorKC10
set_option linter.unusedVariables false
set_option linter.unusedSimpArgs false
set_option linter.unusedSectionVars false
section
set_option linter.unusedSectionVars false
set_option linter.unusedVariables false
namespace Go.Proofs.YtikfmknnbjocmaaGreatDoor
open Go.RowKit Go.MapKept
theorem cmpP_lt {p q : Par} (h : p.1 < q.1) : cmpP p q < 0 := by
  have e : cmpI p.1 q.1 = -1 := by unfold cmpI; rw [if_pos h]
  unfold cmpP; rw [e, if_pos (by decide)]; decide
theorem cmpP_gt {p q : Par} (h : ¬ p.1 < q.1) (h' : p.1 ≠ q.1) : ¬ cmpP p q < 0 := by
  have e : cmpI p.1 q.1 = 1 := by unfold cmpI; rw [if_neg h, if_pos (by omega)]
  unfold cmpP; rw [e, if_pos (by decide)]; decide
theorem cmpP_eq {p q : Par} (h : p.1 = q.1) : decide (cmpP p q < 0) = Op.bytesLess p.2 q.2 := by
  have e : cmpI p.1 q.1 = 0 := by unfold cmpI; rw [if_neg (by omega), if_neg (by omega)]
  unfold cmpP; rw [e, if_neg (by decide)]
  unfold cmpS
  cases Op.bytesLess p.2 q.2 with
  | true => rfl
  | false =>
    simp only [Bool.false_eq_true, if_false]
    split <;> rfl
theorem refLess0 {u : PH} (p q : Par) (r : Bool) (h : decide (cmpP p q < 0) = r) : Fn0 Tryz.prog 61 [parV p, parV q] u fun v _ => v = .bool r := by
  refine Fn0.of Tryz.func61 (by kernel_rfl) (by kernel_rfl) ?_
  by_cases h1 : p.1 < q.1
  · refine G.lssT p.1 q.1 (by kernel_rfl) h1 ?_
    rw [decide_eq_true (cmpP_lt h1)] at h
    subst h
    exact G.ret (.bool true) (by kernel_rfl) ⟨rfl, rfl⟩
  · refine G.lssF p.1 q.1 (by kernel_rfl) h1 ?_
    by_cases h2 : p.1 = q.1
    · rw [cmpP_eq h2] at h
      refine G.eqlT p.1 q.1 (by kernel_rfl) h2 ?_
      refine G.ltS p.2 q.2 r (by kernel_rfl) h ?_
      cases r with
      | true => exact G.ret (.bool true) (by kernel_rfl) ⟨rfl, rfl⟩
      | false => exact G.ret (.bool false) (by kernel_rfl) ⟨rfl, rfl⟩
    · rw [decide_eq_false (cmpP_gt h1 h2)] at h
      subst h
      refine G.eqlF p.1 q.1 (by kernel_rfl) h2 ?_
      exact G.ret (.bool false) (by kernel_rfl) ⟨rfl, rfl⟩
set_option maxHeartbeats 1000000 in
theorem refSum0 {u : PH} {v : Value} {F : CF} {K : Nat} (p : Par) (h : CofP u v F K) (hK : K ≤ 1000000) : Fn0 Tryz.prog 28 [v, parV p] u fun r _ => r = .string (mkS (ratT (F.s p))) := by
  obtain ⟨T, Q, a1, c1, a2, c2, rfl, hT, hQ, cT, cQ, kT, kQ⟩ := h
  refine Fn0.of Tryz.func28 (by kernel_rfl) (by kernel_rfl) ?_
  refine G.loop (ι := Nat) (fun i => [(3, .p 1 0), (8, .v (.slice a1 T.length c1)), (9, .v (.int .i64 (T.length : Int))), (10, .v (.int .i64 (i : Int)))]) (fun _ => [(1, ⟨43, [.v (.int .i64 p.1), .v (.string (mkS p.2))]⟩)])
    (fun i u' m' => i ≤ T.length ∧ (∀ j (hj : j < T.length), j < i → (T[j]'hj).1 ≠ p) ∧ m' = PH.mt) (fun i => T.length - i) 0 (by kernel_rfl) (fun _ => by kernel_rfl) ⟨by kernel_rfl, by kernel_rfl, by kernel_rfl⟩ ⟨by omega, fun j hj h => by omega, rfl⟩ ?_
  rintro J i hJ u1 m1 l1 ⟨hi, h0, rfl⟩
  by_cases hlt : i < T.length
  · refine G.lssT (i : Int) (T.length : Int) (by kernel_rfl) (by omega) ?_
    have hTi : T[i]? = some T[i] := List.getElem?_eq_getElem hlt
    have hval := (cT.val _ (List.getElem_mem hlt)).1
    obtain ⟨ba, oa, rfl, ea⟩ := ListP.at' (hT.mono l1) (j := i) (e := termV T[i]) (by simp [hTi])
    refine G.addr ba oa T.length c1 i 3 (by kernel_rfl) (by omega) ?_
    refine G.loadU (some 3) ba (oa + i * 3) (.agg #[.int .i64 T[i].1.1, .string (mkS T[i].1.2), .string (mkS (ratT T[i].2))]) (by kernel_rfl) (by kernel_rfl) ea ?_
    by_cases he : T[i].1 = p
    · refine G.eqAgg 43 #[.int .i64 T[i].1.1, .string (mkS T[i].1.2)] #[.int .i64 p.1, .string (mkS p.2)] true (by kernel_rfl) (by kernel_rfl) (by kernel_rfl) (fun w => by rw [← decide_eq_true he]; exact keyPar.eq T[i].1 p w) ?_
      exact G.ret (.string (mkS (ratT T[i].2))) (by kernel_rfl) ⟨rfl, by rw [hval, he]⟩
    · refine G.eqAgg 43 #[.int .i64 T[i].1.1, .string (mkS T[i].1.2)] #[.int .i64 p.1, .string (mkS p.2)] false (by kernel_rfl) (by kernel_rfl) (by kernel_rfl) (fun w => by rw [← decide_eq_false he]; exact keyPar.eq T[i].1 p w) ?_
      refine G.add (i : Int) 1 ((i + 1 : Nat) : Int) (by kernel_rfl) (by omega) (by omega) (by omega) ?_
      exact G.back (by kernel_rfl) (hJ (i + 1) _ _ _ ⟨by kernel_rfl, by kernel_rfl, by kernel_rfl⟩ l1 ⟨by omega, fun j hj h => by
        rcases (by omega : j < i ∨ j = i) with e | rfl
        · exact h0 j hj e
        · exact he, rfl⟩ (by omega))
  · obtain rfl : i = T.length := by omega
    refine G.lssF (T.length : Int) (T.length : Int) (by kernel_rfl) (by omega) ?_
    have hz : F.s p = 0 := cT.out p fun hm => by
      obtain ⟨x, hx, e⟩ := List.mem_map.1 hm
      obtain ⟨j, hj, rfl⟩ := List.getElem_of_mem hx
      exact h0 j hj hj e
    exact G.ret (.string (mkS [48])) (by kernel_rfl) ⟨rfl, by rw [hz, ratT_zero]⟩
set_option maxHeartbeats 4000000 in
theorem refProduct0 {u : PH} {v : Value} {F : CF} {K : Nat} (p q : Par) (h : CofP u v F K) (hK : K ≤ 1000000) : Fn0 Tryz.prog 32 [v, parV p, parV q] u fun r _ => r = .string (mkS (ratT (F.t (pairP p q)))) := by
  obtain ⟨T, Q, a1, c1, a2, c2, rfl, hT, hQ, cT, cQ, kT, kQ⟩ := h
  refine Fn0.of Tryz.func32 (by kernel_rfl) (by kernel_rfl) ?_
  by_cases hsw : cmpP q p < 0
  · rw [show pairP p q = (q, p) by unfold pairP; rw [if_pos ((ordP.sym _ _).1 hsw)]]
    refine G.call0 _ _ (by kernel_rfl) Tryz.call61 (refLess0 q p true (decide_eq_true hsw)) ?_
    rintro v0 u0 l0 rfl
    refine G.loop (ι := Nat) (fun i => [(4, .p 1 0), (5, .p 2 0), (15, .v (.slice a2 Q.length c2)), (16, .v (.int .i64 (Q.length : Int))), (17, .v (.int .i64 (i : Int)))]) (fun _ => [(1, ⟨43, [.v (.int .i64 q.1), .v (.string (mkS q.2))]⟩), (2, ⟨43, [.v (.int .i64 p.1), .v (.string (mkS p.2))]⟩)])
      (fun i u' m' => i ≤ Q.length ∧ (∀ j (hj : j < Q.length), j < i → (Q[j]'hj).1 ≠ (q, p)) ∧ m' = PH.mt) (fun i => Q.length - i) 0 (by kernel_rfl) (fun _ => by kernel_rfl) ⟨by kernel_rfl, by kernel_rfl, by kernel_rfl⟩ ⟨by omega, fun j hj h => by omega, rfl⟩ ?_
    rintro J i hJ u1 m1 l1 ⟨hi, h0, rfl⟩
    by_cases hlt : i < Q.length
    · refine G.lssT (i : Int) (Q.length : Int) (by kernel_rfl) (by omega) ?_
      have hTi : Q[i]? = some Q[i] := List.getElem?_eq_getElem hlt
      have hval := (cQ.val _ (List.getElem_mem hlt)).1
      obtain ⟨ba, oa, rfl, ea⟩ := ListP.at' (hQ.mono (l0.trans l1)) (j := i) (e := prtV Q[i]) (by simp [hTi])
      have hback : Q[i].1 ≠ (q, p) → ∀ j (hj : j < Q.length), j < i + 1 → (Q[j]'hj).1 ≠ (q, p) := fun hne j hj h => by
        rcases (by omega : j < i ∨ j = i) with e | rfl
        · exact h0 j hj e
        · exact hne
      refine G.addr ba oa Q.length c2 i 5 (by kernel_rfl) (by omega) ?_
      refine G.loadU (some 5) ba (oa + i * 5) (.agg #[.int .i64 Q[i].1.1.1, .string (mkS Q[i].1.1.2), .int .i64 Q[i].1.2.1, .string (mkS Q[i].1.2.2), .string (mkS (ratT Q[i].2))]) (by kernel_rfl) (by kernel_rfl) ea ?_
      by_cases he : Q[i].1.1 = q
      · refine G.eqAgg 43 #[.int .i64 Q[i].1.1.1, .string (mkS Q[i].1.1.2)] #[.int .i64 q.1, .string (mkS q.2)] true (by kernel_rfl) (by kernel_rfl) (by kernel_rfl) (fun w => by rw [← decide_eq_true he]; exact keyPar.eq Q[i].1.1 q w) ?_
        by_cases he2 : Q[i].1.2 = p
        · refine G.eqAgg 43 #[.int .i64 Q[i].1.2.1, .string (mkS Q[i].1.2.2)] #[.int .i64 p.1, .string (mkS p.2)] true (by kernel_rfl) (by kernel_rfl) (by kernel_rfl) (fun w => by rw [← decide_eq_true he2]; exact keyPar.eq Q[i].1.2 p w) ?_
          exact G.ret (.string (mkS (ratT Q[i].2))) (by kernel_rfl) ⟨rfl, by rw [hval, show Q[i].1 = (q, p) from Prod.ext he he2]⟩
        · refine G.eqAgg 43 #[.int .i64 Q[i].1.2.1, .string (mkS Q[i].1.2.2)] #[.int .i64 p.1, .string (mkS p.2)] false (by kernel_rfl) (by kernel_rfl) (by kernel_rfl) (fun w => by rw [← decide_eq_false he2]; exact keyPar.eq Q[i].1.2 p w) ?_
          refine G.add (i : Int) 1 ((i + 1 : Nat) : Int) (by kernel_rfl) (by omega) (by omega) (by omega) ?_
          exact G.back (by kernel_rfl) (hJ (i + 1) _ _ _ ⟨by kernel_rfl, by kernel_rfl, by kernel_rfl⟩ l1 ⟨by omega, hback fun e => he2 (congrArg Prod.snd e), rfl⟩ (by omega))
      · refine G.eqAgg 43 #[.int .i64 Q[i].1.1.1, .string (mkS Q[i].1.1.2)] #[.int .i64 q.1, .string (mkS q.2)] false (by kernel_rfl) (by kernel_rfl) (by kernel_rfl) (fun w => by rw [← decide_eq_false he]; exact keyPar.eq Q[i].1.1 q w) ?_
        refine G.add (i : Int) 1 ((i + 1 : Nat) : Int) (by kernel_rfl) (by omega) (by omega) (by omega) ?_
        exact G.back (by kernel_rfl) (hJ (i + 1) _ _ _ ⟨by kernel_rfl, by kernel_rfl, by kernel_rfl⟩ l1 ⟨by omega, hback fun e => he (congrArg Prod.fst e), rfl⟩ (by omega))
    · obtain rfl : i = Q.length := by omega
      refine G.lssF (Q.length : Int) (Q.length : Int) (by kernel_rfl) (by omega) ?_
      have hz : F.t (q, p) = 0 := cQ.out (q, p) fun hm => by
        obtain ⟨x, hx, e⟩ := List.mem_map.1 hm
        obtain ⟨j, hj, rfl⟩ := List.getElem_of_mem hx
        exact h0 j hj hj e
      exact G.ret (.string (mkS [48])) (by kernel_rfl) ⟨rfl, by rw [hz, ratT_zero]⟩
  · rw [show pairP p q = (p, q) by unfold pairP; rw [if_neg fun e => hsw ((ordP.sym _ _).2 e)]]
    refine G.call0 _ _ (by kernel_rfl) Tryz.call61 (refLess0 q p false (decide_eq_false hsw)) ?_
    rintro v0 u0 l0 rfl
    refine G.loop (ι := Nat) (fun i => [(4, .p 1 0), (5, .p 2 0), (15, .v (.slice a2 Q.length c2)), (16, .v (.int .i64 (Q.length : Int))), (17, .v (.int .i64 (i : Int)))]) (fun _ => [(1, ⟨43, [.v (.int .i64 p.1), .v (.string (mkS p.2))]⟩), (2, ⟨43, [.v (.int .i64 q.1), .v (.string (mkS q.2))]⟩)])
      (fun i u' m' => i ≤ Q.length ∧ (∀ j (hj : j < Q.length), j < i → (Q[j]'hj).1 ≠ (p, q)) ∧ m' = PH.mt) (fun i => Q.length - i) 0 (by kernel_rfl) (fun _ => by kernel_rfl) ⟨by kernel_rfl, by kernel_rfl, by kernel_rfl⟩ ⟨by omega, fun j hj h => by omega, rfl⟩ ?_
    rintro J i hJ u1 m1 l1 ⟨hi, h0, rfl⟩
    by_cases hlt : i < Q.length
    · refine G.lssT (i : Int) (Q.length : Int) (by kernel_rfl) (by omega) ?_
      have hTi : Q[i]? = some Q[i] := List.getElem?_eq_getElem hlt
      have hval := (cQ.val _ (List.getElem_mem hlt)).1
      obtain ⟨ba, oa, rfl, ea⟩ := ListP.at' (hQ.mono (l0.trans l1)) (j := i) (e := prtV Q[i]) (by simp [hTi])
      have hback : Q[i].1 ≠ (p, q) → ∀ j (hj : j < Q.length), j < i + 1 → (Q[j]'hj).1 ≠ (p, q) := fun hne j hj h => by
        rcases (by omega : j < i ∨ j = i) with e | rfl
        · exact h0 j hj e
        · exact hne
      refine G.addr ba oa Q.length c2 i 5 (by kernel_rfl) (by omega) ?_
      refine G.loadU (some 5) ba (oa + i * 5) (.agg #[.int .i64 Q[i].1.1.1, .string (mkS Q[i].1.1.2), .int .i64 Q[i].1.2.1, .string (mkS Q[i].1.2.2), .string (mkS (ratT Q[i].2))]) (by kernel_rfl) (by kernel_rfl) ea ?_
      by_cases he : Q[i].1.1 = p
      · refine G.eqAgg 43 #[.int .i64 Q[i].1.1.1, .string (mkS Q[i].1.1.2)] #[.int .i64 p.1, .string (mkS p.2)] true (by kernel_rfl) (by kernel_rfl) (by kernel_rfl) (fun w => by rw [← decide_eq_true he]; exact keyPar.eq Q[i].1.1 p w) ?_
        by_cases he2 : Q[i].1.2 = q
        · refine G.eqAgg 43 #[.int .i64 Q[i].1.2.1, .string (mkS Q[i].1.2.2)] #[.int .i64 q.1, .string (mkS q.2)] true (by kernel_rfl) (by kernel_rfl) (by kernel_rfl) (fun w => by rw [← decide_eq_true he2]; exact keyPar.eq Q[i].1.2 q w) ?_
          exact G.ret (.string (mkS (ratT Q[i].2))) (by kernel_rfl) ⟨rfl, by rw [hval, show Q[i].1 = (p, q) from Prod.ext he he2]⟩
        · refine G.eqAgg 43 #[.int .i64 Q[i].1.2.1, .string (mkS Q[i].1.2.2)] #[.int .i64 q.1, .string (mkS q.2)] false (by kernel_rfl) (by kernel_rfl) (by kernel_rfl) (fun w => by rw [← decide_eq_false he2]; exact keyPar.eq Q[i].1.2 q w) ?_
          refine G.add (i : Int) 1 ((i + 1 : Nat) : Int) (by kernel_rfl) (by omega) (by omega) (by omega) ?_
          exact G.back (by kernel_rfl) (hJ (i + 1) _ _ _ ⟨by kernel_rfl, by kernel_rfl, by kernel_rfl⟩ l1 ⟨by omega, hback fun e => he2 (congrArg Prod.snd e), rfl⟩ (by omega))
      · refine G.eqAgg 43 #[.int .i64 Q[i].1.1.1, .string (mkS Q[i].1.1.2)] #[.int .i64 p.1, .string (mkS p.2)] false (by kernel_rfl) (by kernel_rfl) (by kernel_rfl) (fun w => by rw [← decide_eq_false he]; exact keyPar.eq Q[i].1.1 p w) ?_
        refine G.add (i : Int) 1 ((i + 1 : Nat) : Int) (by kernel_rfl) (by omega) (by omega) (by omega) ?_
        exact G.back (by kernel_rfl) (hJ (i + 1) _ _ _ ⟨by kernel_rfl, by kernel_rfl, by kernel_rfl⟩ l1 ⟨by omega, hback fun e => he (congrArg Prod.fst e), rfl⟩ (by omega))
    · obtain rfl : i = Q.length := by omega
      refine G.lssF (Q.length : Int) (Q.length : Int) (by kernel_rfl) (by omega) ?_
      have hz : F.t (p, q) = 0 := cQ.out (p, q) fun hm => by
        obtain ⟨x, hx, e⟩ := List.mem_map.1 hm
        obtain ⟨j, hj, rfl⟩ := List.getElem_of_mem hx
        exact h0 j hj hj e
      exact G.ret (.string (mkS [48])) (by kernel_rfl) ⟨rfl, by rw [hz, ratT_zero]⟩
theorem entN0 {u : PH} {q : Rat} (h : Tx q) : Fn0 Tryz.prog 26 [.string (mkS (ratT q))] u fun v u' => QP u' v q := by
  refine Fn0.of Tryz.func26 (by kernel_rfl) (by kernel_rfl) ?_
  refine G.call0 _ _ (by kernel_rfl) Tryz.call27 (refReadT h) ?_
  intro v3 u3 l3 k3
  obtain ⟨b3, a3, n3, c3, a3', n3', c3', rfl, _⟩ := k3.opn
  exact G.ret (.agg #[.bool b3, .slice a3 n3 c3, .bool false, .slice a3' n3' c3']) (by kernel_rfl) ⟨rfl, k3⟩
theorem mul_t_pair (F H : CF) (p q : Par) : (F.mul H).t (pairP p q) = F.c * H.t (pairP p q) + H.c * F.t (pairP p q) + F.s p * H.s q + F.s q * H.s p := by
  have hx : crossP F H (pairP p q) = F.s p * H.s q + F.s q * H.s p := by
    unfold pairP
    by_cases h : 0 < cmpP p q
    · rw [if_pos h]
      unfold crossP
      have h2 : ¬ 0 < cmpP q p := fun e => by have := (ordP.sym _ _).2 e; omega
      have h3 : q ≠ p := fun e => by subst e; rw [ordP.refl] at h; omega
      rw [if_neg h2, if_neg h3]
      grind
    · rw [if_neg h]
      unfold crossP
      rw [if_neg h]
      by_cases e : p = q
      · rw [if_pos e]; subst e; grind
      · rw [if_neg e]
  show H.t (pairP p q) * F.c + F.t (pairP p q) * H.c + crossP F H (pairP p q) = _
  rw [hx]; grind
end Go.Proofs.YtikfmknnbjocmaaGreatDoor
end
section
set_option linter.unusedSectionVars false
set_option linter.unusedVariables false
namespace Go.Proofs.YtikfmknnbjocmaaGreatDoor
open Go.RowKit Go.MapKept
set_option maxHeartbeats 16000000 in
theorem ringEntries0 {u : PH} {v : Value} {ts : List Int} (ht : TabU u) (hv : ListP u v 1 (intsZ ts)) (hlo : ∀ t ∈ ts, -9223372036854775808 ≤ t) (hhi : ∀ t ∈ ts, t ≤ 9223372036854775807) :
    Fn0 Tryz.prog 6 [v] u fun v' _ => v' = .bool true := by
  obtain ⟨a, c, rfl⟩ := hv.opn
  rw [intsZ_length] at hv ⊢
  refine Fn0.of Tryz.func6 (by kernel_rfl) (by kernel_rfl) ?_
  by_cases h400 : 400 < ts.length
  · refine G.gtrT (ts.length : Int) 400 (by kernel_rfl) (by omega) ?_
    refine G.call0 _ _ (by kernel_rfl) Tryz.call8 (sane0 ht) ?_
    rintro v1 u1 l1 rfl
    exact G.ret (.bool true) (by kernel_rfl) ⟨rfl, rfl⟩
  refine G.gtrF (ts.length : Int) 400 (by kernel_rfl) (by omega) ?_
  refine G.callO _ _ (by kernel_rfl) Tryz.call9 (srcNew0 hv (by omega) hlo hhi) ?_
  rintro v1 u1 m1 l1 ⟨s, rfl, rfl, hs⟩ _
  rw [mt_or]
  refine G.callA _ _ (by kernel_rfl) (by kernel_rfl) Tryz.call21 (mt_or _).symm (apart_mt _) (srcCof0 hs (Nat.zero_le _)) ?_
  rintro v2 u2 m2 l2 ⟨F, k2, cF, dF, vF, hk2, rfl⟩ _
  rw [mt_or]
  obtain ⟨a2, n2, e2, a2', n2', e2', rfl⟩ := cF.opn
  refine G.callA _ _ (by kernel_rfl) (by kernel_rfl) Tryz.call21 (mt_or _).symm (apart_mt _) (srcCof0 (hs.mono l2) hk2) ?_
  rintro v3 u3 m3 l3 ⟨H, k3, cH, dH, vH, hk3, rfl⟩ _
  rw [mt_or]
  obtain ⟨a3, n3, e3, a3', n3', e3', rfl⟩ := cH.opn
  have ht3 := ht.mono ((l1.trans l2).trans l3)
  have sF : CFS F := dF.cfs (by omega) (pw (by decide +kernel))
  have sH : CFS H := dH.cfs (by omega) (pw (by decide +kernel))
  have sa : CFS (F.add H) := (dF.add dH).cfs (by omega) (pw (by decide +kernel))
  have sm : CFS (F.mul H) := (dF.mul dH).cfs (by omega) (pw (by decide +kernel))
  refine G.call0 _ _ (by kernel_rfl) Tryz.call24 (ringAdd0 ht3 (cF.mono l3) cH vF vH sF sH sa (by omega) (by omega)) ?_
  rintro v4 u4 l4 ⟨w4, rfl, kC⟩
  obtain ⟨a4, n4, e4, a4', n4', e4', rfl⟩ := kC.opn
  refine G.call0 _ _ (by kernel_rfl) Tryz.call15 (ringMul0 (ht3.mono l4) ((cF.mono l3).mono l4) (cH.mono l4) vF vH (mulOK dF dH (by omega) (pw (by decide +kernel)) (by omega) (by omega)) sm (by omega) (by omega)) ?_
  rintro v5 u5 l5 ⟨w5, rfl, kD⟩
  obtain ⟨a5, n5, e5, a5', n5', e5', rfl⟩ := kD.opn
  refine G.neqF 0 0 (by kernel_rfl) (by omega) ?_
  refine G.neqF 0 0 (by kernel_rfl) (by omega) ?_
  refine G.buildU 43 2 24 (.agg #[.int .i64 0, .string (mkS [])]) [.agg #[.int .i64 (-1), .string (mkS [])], .agg #[.int .i64 0, .string (mkS [])], .agg #[.int .i64 1, .string (mkS blueL)], .agg #[.int .i64 1, .string (mkS redL)]] (by kernel_rfl) (fun e he => by
    simp at he
    rcases he with rfl | rfl | rfl | rfl <;> exact ⟨rfl, List.all_eq_true.1 rfl⟩) rfl (by omega) (by simp) (by simp) ?_
  intro g u6 l6 x6
  have cF6 := (((cF.mono l3).mono l4).mono l5).mono l6
  have cH6 := ((cH.mono l4).mono l5).mono l6
  have kC6 := (kC.mono l5).mono l6
  have kD6 := kD.mono l6
  have ht6 := ((ht3.mono l4).mono l5).mono l6
  have hL : ∀ u', PH.le u6 u' → ∀ i, i < 4 → ∃ p : Par, ElP u' g (0 + i * 2) (.agg #[.int .i64 p.1, .string (mkS p.2)]) := fun u' hl i hi => by
    have x := x6.mono hl
    rcases (by omega : i = 0 ∨ i = 1 ∨ i = 2 ∨ i = 3) with rfl | rfl | rfl | rfl
    · exact ⟨(-1, []), x 0 _ rfl⟩
    · exact ⟨(0, []), x 1 _ rfl⟩
    · exact ⟨(1, blueL), x 2 _ rfl⟩
    · exact ⟨(1, redL), x 3 _ rfl⟩
  refine G.loop (ι := Nat) (fun i => [(4, .p 4004 0), (5, .p 4005 0), (6, .p 5006 0), (8, .p 6006 0), (10, .v (.slice (some ⟨g, 0, none⟩) 4 4)), (11, .v (.func (.func 26) #[] #[])), (57, .v (.slice (some ⟨g, 0, none⟩) 4 4)), (58, .v (.int .i64 ((4 : Nat) : Int))), (59, .v (.int .i64 (i : Int)))])
    (fun _ => [(4004, ⟨38, [.v (.string (mkS (ratT (F).c))), .v (.slice a2 n2 e2), .v (.slice a2' n2' e2')]⟩), (4005, ⟨38, [.v (.string (mkS (ratT (H).c))), .v (.slice a3 n3 e3), .v (.slice a3' n3' e3')]⟩), (5006, ⟨38, [.v (.string (mkS (ratT (F.add H).c))), .v (.slice a4 n4 e4), .v (.slice a4' n4' e4')]⟩), (6006, ⟨38, [.v (.string (mkS (ratT (F.mul H).c))), .v (.slice a5 n5 e5), .v (.slice a5' n5' e5')]⟩)])
    (fun i u' m' => i ≤ 4) (fun i => 4 - i) 0 (by kernel_rfl) (fun _ => by kernel_rfl) ⟨by kernel_rfl, by kernel_rfl, by kernel_rfl⟩ (by omega) ?_
  rintro J i hJ u7 m7 l7 hi
  by_cases hlt : i < 4
  · refine G.lssT (i : Int) ((4 : Nat) : Int) (by kernel_rfl) (by omega) ?_
    obtain ⟨p, hp⟩ := hL u7 l7 i hlt
    refine G.addr g 0 4 4 i 2 (by kernel_rfl) hlt ?_
    refine G.loadU (some 2) g (0 + i * 2) (.agg #[.int .i64 p.1, .string (mkS p.2)]) (by kernel_rfl) (by kernel_rfl) hp ?_
    have le7 := l7
    refine G.call0 _ _ (by kernel_rfl) Tryz.call28 (refSum0 p (cF6.mono le7) (by omega)) ?_
    rintro v8 u8 l8 rfl
    have le8 := le7.trans l8
    refine G.call0 _ _ (by kernel_rfl) Tryz.call28 (refSum0 p (cH6.mono le8) (by omega)) ?_
    rintro v9 u9 l9 rfl
    have le9 := le8.trans l9
    refine G.call0 _ _ (by kernel_rfl) Tryz.call25 (refAddT (SB.tx (sF.s p)) (SB.tx (sH.s p)) (SB.tx (sa.s p))) ?_
    rintro v10 u10 l10 rfl
    have le10 := le9.trans l10
    refine G.call0 _ _ (by kernel_rfl) Tryz.call26 (entN0 (SB.tx sF.c)) ?_
    intro v11 u11 l11 q1
    obtain ⟨b11, x11, y11, z11, x11', y11', z11', rfl, _⟩ := q1.opn
    have le11 := le10.trans l11
    refine G.call0 _ _ (by kernel_rfl) Tryz.call28 (refSum0 p (cH6.mono le11) (by omega)) ?_
    rintro v12 u12 l12 rfl
    have le12 := le11.trans l12
    have q1 := q1.mono l12
    refine G.call0 _ _ (by kernel_rfl) Tryz.call26 (entN0 (SB.tx (sH.s p))) ?_
    intro v13 u13 l13 q2
    obtain ⟨b13, x13, y13, z13, x13', y13', z13', rfl, _⟩ := q2.opn
    have le13 := le12.trans l13
    have q1 := q1.mono l13
    refine G.call0 _ _ (by kernel_rfl) Tryz.call29 (refMul0 q1 q2 ((SB.sz sF.c).mono (by omega)) ((SB.sz (sH.s p)).mono (by omega))) ?_
    intro v14 u14 l14 M1
    obtain ⟨b14, x14, y14, z14, x14', y14', z14', rfl, _⟩ := M1.opn
    have le14 := le13.trans l14
    have zM1 := sz_mul (SB.sz sF.c) (SB.sz (sH.s p))
    refine G.call0 _ _ (by kernel_rfl) Tryz.call26 (entN0 (SB.tx sH.c)) ?_
    intro v15 u15 l15 q1
    obtain ⟨b15, x15, y15, z15, x15', y15', z15', rfl, _⟩ := q1.opn
    have le15 := le14.trans l15
    have M1 := M1.mono l15
    refine G.call0 _ _ (by kernel_rfl) Tryz.call28 (refSum0 p (cF6.mono le15) (by omega)) ?_
    rintro v16 u16 l16 rfl
    have le16 := le15.trans l16
    have M1 := M1.mono l16
    have q1 := q1.mono l16
    refine G.call0 _ _ (by kernel_rfl) Tryz.call26 (entN0 (SB.tx (sF.s p))) ?_
    intro v17 u17 l17 q2
    obtain ⟨b17, x17, y17, z17, x17', y17', z17', rfl, _⟩ := q2.opn
    have le17 := le16.trans l17
    have M1 := M1.mono l17
    have q1 := q1.mono l17
    refine G.call0 _ _ (by kernel_rfl) Tryz.call29 (refMul0 q1 q2 ((SB.sz sH.c).mono (by omega)) ((SB.sz (sF.s p)).mono (by omega))) ?_
    intro v18 u18 l18 M2
    obtain ⟨b18, x18, y18, z18, x18', y18', z18', rfl, _⟩ := M2.opn
    have le18 := le17.trans l18
    have M1 := M1.mono l18
    have zM2 := sz_mul (SB.sz sH.c) (SB.sz (sF.s p))
    refine G.call0 _ _ (by kernel_rfl) Tryz.call30 (refAdd0 M1 M2 (zM1.mono (by omega)) (zM2.mono (by omega))) ?_
    intro v19 u19 l19 A1
    obtain ⟨b19, x19, y19, z19, x19', y19', z19', rfl, _⟩ := A1.opn
    have le19 := le18.trans l19
    have zA1 := sz_add (zM1.mono (show _ ≤ 1000 by omega)) (zM2.mono (show _ ≤ 1000 by omega))
    have h1 : F.c * H.s p + H.c * F.s p = (F.mul H).s p := by show _ = H.s p * F.c + F.s p * H.c; grind
    rw [h1] at A1
    refine G.call0 _ _ (by kernel_rfl) Tryz.call31 (refGive0 A1 (SB.tx (sm.s p))) ?_
    rintro v20 u20 l20 rfl
    have le20 := le19.trans l20
    refine G.call0 _ _ (by kernel_rfl) Tryz.call18 (sum0 p (kC6.mono le20) (by omega)) ?_
    rintro v21 u21 l21 rfl
    have le21 := le20.trans l21
    refine G.neSF (ratT ((F.add H).s p)) (ratT (F.s p + H.s p)) (by kernel_rfl) rfl ?_
    refine G.call0 _ _ (by kernel_rfl) Tryz.call18 (sum0 p (kD6.mono le21) (by omega)) ?_
    rintro v22 u22 l22 rfl
    have le22 := le21.trans l22
    refine G.neSF (ratT ((F.mul H).s p)) (ratT ((F.mul H).s p)) (by kernel_rfl) rfl ?_
    refine G.loop (ι := Nat) (fun j => [(4, .p 4004 0), (5, .p 4005 0), (6, .p 5006 0), (8, .p 6006 0), (10, .v (.slice (some ⟨g, 0, none⟩) 4 4)), (11, .v (.func (.func 26) #[] #[])), (13, .p 13002 0), (57, .v (.slice (some ⟨g, 0, none⟩) 4 4)), (58, .v (.int .i64 ((4 : Nat) : Int))), (59, .v (.int .i64 (i : Int))), (110, .v (.slice (some ⟨g, 0, none⟩) 4 4)), (111, .v (.int .i64 ((4 : Nat) : Int))), (112, .v (.int .i64 (j : Int)))])
      (fun _ => [(4004, ⟨38, [.v (.string (mkS (ratT (F).c))), .v (.slice a2 n2 e2), .v (.slice a2' n2' e2')]⟩), (4005, ⟨38, [.v (.string (mkS (ratT (H).c))), .v (.slice a3 n3 e3), .v (.slice a3' n3' e3')]⟩), (5006, ⟨38, [.v (.string (mkS (ratT (F.add H).c))), .v (.slice a4 n4 e4), .v (.slice a4' n4' e4')]⟩), (6006, ⟨38, [.v (.string (mkS (ratT (F.mul H).c))), .v (.slice a5 n5 e5), .v (.slice a5' n5' e5')]⟩), (13002, ⟨43, [.v (.int .i64 p.1), .v (.string (mkS p.2))]⟩)])
      (fun j u' m' => j ≤ 4) (fun j => 4 - j) 0 (by kernel_rfl) (fun _ => by kernel_rfl) ⟨by kernel_rfl, by kernel_rfl, by kernel_rfl⟩ (by omega) ?_
    rintro J2 j hJ2 u23 m23 l23 hj
    have le23 := le22.trans l23
    by_cases hltj : j < 4
    · refine G.lssT (j : Int) ((4 : Nat) : Int) (by kernel_rfl) (by omega) ?_
      obtain ⟨q, hq⟩ := hL u23 le23 j hltj
      refine G.addr g 0 4 4 j 2 (by kernel_rfl) hltj ?_
      refine G.loadU (some 2) g (0 + j * 2) (.agg #[.int .i64 q.1, .string (mkS q.2)]) (by kernel_rfl) (by kernel_rfl) hq ?_
      refine G.call0 _ _ (by kernel_rfl) Tryz.call32 (refProduct0 p q (cF6.mono le23) (by omega)) ?_
      rintro v24 u24 l24 rfl
      have le24 := le23.trans l24
      refine G.call0 _ _ (by kernel_rfl) Tryz.call32 (refProduct0 p q (cH6.mono le24) (by omega)) ?_
      rintro v25 u25 l25 rfl
      have le25 := le24.trans l25
      refine G.call0 _ _ (by kernel_rfl) Tryz.call25 (refAddT (SB.tx (sF.t (pairP p q))) (SB.tx (sH.t (pairP p q))) (SB.tx (sa.t (pairP p q)))) ?_
      rintro v26 u26 l26 rfl
      have le26 := le25.trans l26
      refine G.call0 _ _ (by kernel_rfl) Tryz.call26 (entN0 (SB.tx sF.c)) ?_
      intro v27 u27 l27 q1
      obtain ⟨b27, x27, y27, z27, x27', y27', z27', rfl, _⟩ := q1.opn
      have le27 := le26.trans l27
      refine G.call0 _ _ (by kernel_rfl) Tryz.call32 (refProduct0 p q (cH6.mono le27) (by omega)) ?_
      rintro v28 u28 l28 rfl
      have le28 := le27.trans l28
      have q1 := q1.mono l28
      refine G.call0 _ _ (by kernel_rfl) Tryz.call26 (entN0 (SB.tx (sH.t (pairP p q)))) ?_
      intro v29 u29 l29 q2
      obtain ⟨b29, x29, y29, z29, x29', y29', z29', rfl, _⟩ := q2.opn
      have le29 := le28.trans l29
      have q1 := q1.mono l29
      refine G.call0 _ _ (by kernel_rfl) Tryz.call29 (refMul0 q1 q2 ((SB.sz sF.c).mono (by omega)) ((SB.sz (sH.t (pairP p q))).mono (by omega))) ?_
      intro v30 u30 l30 M1
      obtain ⟨b30, x30, y30, z30, x30', y30', z30', rfl, _⟩ := M1.opn
      have le30 := le29.trans l30
      have zM1 := sz_mul (SB.sz sF.c) (SB.sz (sH.t (pairP p q)))
      refine G.call0 _ _ (by kernel_rfl) Tryz.call26 (entN0 (SB.tx sH.c)) ?_
      intro v31 u31 l31 q1
      obtain ⟨b31, x31, y31, z31, x31', y31', z31', rfl, _⟩ := q1.opn
      have le31 := le30.trans l31
      have M1 := M1.mono l31
      refine G.call0 _ _ (by kernel_rfl) Tryz.call32 (refProduct0 p q (cF6.mono le31) (by omega)) ?_
      rintro v32 u32 l32 rfl
      have le32 := le31.trans l32
      have M1 := M1.mono l32
      have q1 := q1.mono l32
      refine G.call0 _ _ (by kernel_rfl) Tryz.call26 (entN0 (SB.tx (sF.t (pairP p q)))) ?_
      intro v33 u33 l33 q2
      obtain ⟨b33, x33, y33, z33, x33', y33', z33', rfl, _⟩ := q2.opn
      have le33 := le32.trans l33
      have M1 := M1.mono l33
      have q1 := q1.mono l33
      refine G.call0 _ _ (by kernel_rfl) Tryz.call29 (refMul0 q1 q2 ((SB.sz sH.c).mono (by omega)) ((SB.sz (sF.t (pairP p q))).mono (by omega))) ?_
      intro v34 u34 l34 M2
      obtain ⟨b34, x34, y34, z34, x34', y34', z34', rfl, _⟩ := M2.opn
      have le34 := le33.trans l34
      have M1 := M1.mono l34
      have zM2 := sz_mul (SB.sz sH.c) (SB.sz (sF.t (pairP p q)))
      refine G.call0 _ _ (by kernel_rfl) Tryz.call30 (refAdd0 M1 M2 (zM1.mono (by omega)) (zM2.mono (by omega))) ?_
      intro v35 u35 l35 A1
      obtain ⟨b35, x35, y35, z35, x35', y35', z35', rfl, _⟩ := A1.opn
      have le35 := le34.trans l35
      have zA1 := sz_add (zM1.mono (show _ ≤ 1000 by omega)) (zM2.mono (show _ ≤ 1000 by omega))
      refine G.call0 _ _ (by kernel_rfl) Tryz.call28 (refSum0 p (cF6.mono le35) (by omega)) ?_
      rintro v36 u36 l36 rfl
      have le36 := le35.trans l36
      have A1 := A1.mono l36
      refine G.call0 _ _ (by kernel_rfl) Tryz.call26 (entN0 (SB.tx (sF.s p))) ?_
      intro v37 u37 l37 q1
      obtain ⟨b37, x37, y37, z37, x37', y37', z37', rfl, _⟩ := q1.opn
      have le37 := le36.trans l37
      have A1 := A1.mono l37
      refine G.call0 _ _ (by kernel_rfl) Tryz.call28 (refSum0 q (cH6.mono le37) (by omega)) ?_
      rintro v38 u38 l38 rfl
      have le38 := le37.trans l38
      have A1 := A1.mono l38
      have q1 := q1.mono l38
      refine G.call0 _ _ (by kernel_rfl) Tryz.call26 (entN0 (SB.tx (sH.s q))) ?_
      intro v39 u39 l39 q2
      obtain ⟨b39, x39, y39, z39, x39', y39', z39', rfl, _⟩ := q2.opn
      have le39 := le38.trans l39
      have A1 := A1.mono l39
      have q1 := q1.mono l39
      refine G.call0 _ _ (by kernel_rfl) Tryz.call29 (refMul0 q1 q2 ((SB.sz (sF.s p)).mono (by omega)) ((SB.sz (sH.s q)).mono (by omega))) ?_
      intro v40 u40 l40 M3
      obtain ⟨b40, x40, y40, z40, x40', y40', z40', rfl, _⟩ := M3.opn
      have le40 := le39.trans l40
      have A1 := A1.mono l40
      have zM3 := sz_mul (SB.sz (sF.s p)) (SB.sz (sH.s q))
      refine G.call0 _ _ (by kernel_rfl) Tryz.call30 (refAdd0 A1 M3 (zA1.mono (by omega)) (zM3.mono (by omega))) ?_
      intro v41 u41 l41 A2
      obtain ⟨b41, x41, y41, z41, x41', y41', z41', rfl, _⟩ := A2.opn
      have le41 := le40.trans l41
      have zA2 := sz_add (zA1.mono (show _ ≤ 3000 by omega)) (zM3.mono (show _ ≤ 3000 by omega))
      refine G.call0 _ _ (by kernel_rfl) Tryz.call28 (refSum0 q (cF6.mono le41) (by omega)) ?_
      rintro v42 u42 l42 rfl
      have le42 := le41.trans l42
      have A2 := A2.mono l42
      refine G.call0 _ _ (by kernel_rfl) Tryz.call26 (entN0 (SB.tx (sF.s q))) ?_
      intro v43 u43 l43 q1
      obtain ⟨b43, x43, y43, z43, x43', y43', z43', rfl, _⟩ := q1.opn
      have le43 := le42.trans l43
      have A2 := A2.mono l43
      refine G.call0 _ _ (by kernel_rfl) Tryz.call28 (refSum0 p (cH6.mono le43) (by omega)) ?_
      rintro v44 u44 l44 rfl
      have le44 := le43.trans l44
      have A2 := A2.mono l44
      have q1 := q1.mono l44
      refine G.call0 _ _ (by kernel_rfl) Tryz.call26 (entN0 (SB.tx (sH.s p))) ?_
      intro v45 u45 l45 q2
      obtain ⟨b45, x45, y45, z45, x45', y45', z45', rfl, _⟩ := q2.opn
      have le45 := le44.trans l45
      have A2 := A2.mono l45
      have q1 := q1.mono l45
      refine G.call0 _ _ (by kernel_rfl) Tryz.call29 (refMul0 q1 q2 ((SB.sz (sF.s q)).mono (by omega)) ((SB.sz (sH.s p)).mono (by omega))) ?_
      intro v46 u46 l46 M4
      obtain ⟨b46, x46, y46, z46, x46', y46', z46', rfl, _⟩ := M4.opn
      have le46 := le45.trans l46
      have A2 := A2.mono l46
      have zM4 := sz_mul (SB.sz (sF.s q)) (SB.sz (sH.s p))
      refine G.call0 _ _ (by kernel_rfl) Tryz.call30 (refAdd0 A2 M4 (zA2.mono (by omega)) (zM4.mono (by omega))) ?_
      intro v47 u47 l47 A3
      obtain ⟨b47, x47, y47, z47, x47', y47', z47', rfl, _⟩ := A3.opn
      have le47 := le46.trans l47
      have zA3 := sz_add (zA2.mono (show _ ≤ 9000 by omega)) (zM4.mono (show _ ≤ 9000 by omega))
      rw [← mul_t_pair] at A3
      refine G.call0 _ _ (by kernel_rfl) Tryz.call31 (refGive0 A3 (SB.tx (sm.t (pairP p q)))) ?_
      rintro v48 u48 l48 rfl
      have le48 := le47.trans l48
      refine G.call0 _ _ (by kernel_rfl) Tryz.call20 (product0 p q (kC6.mono le48) (by omega)) ?_
      rintro v49 u49 l49 rfl
      have le49 := le48.trans l49
      refine G.neSF (ratT ((F.add H).t (pairP p q))) (ratT (F.t (pairP p q) + H.t (pairP p q))) (by kernel_rfl) rfl ?_
      refine G.call0 _ _ (by kernel_rfl) Tryz.call20 (product0 p q (kD6.mono le49) (by omega)) ?_
      rintro v50 u50 l50 rfl
      have le50 := le49.trans l50
      refine G.neSF (ratT ((F.mul H).t (pairP p q))) (ratT ((F.mul H).t (pairP p q))) (by kernel_rfl) rfl ?_
      refine G.add (j : Int) 1 ((j + 1 : Nat) : Int) (by kernel_rfl) (by omega) (by omega) (by omega) ?_
      exact G.back (by kernel_rfl) (hJ2 (j + 1) _ _ _ ⟨by kernel_rfl, by kernel_rfl, by kernel_rfl⟩ (((((((((((((((((((((((((((l23.trans l24).trans l25).trans l26).trans l27).trans l28).trans l29).trans l30).trans l31).trans l32).trans l33).trans l34).trans l35).trans l36).trans l37).trans l38).trans l39).trans l40).trans l41).trans l42).trans l43).trans l44).trans l45).trans l46).trans l47).trans l48).trans l49).trans l50) (by omega) (by omega))
    · obtain rfl : j = 4 := by omega
      refine G.lssF ((4 : Nat) : Int) ((4 : Nat) : Int) (by kernel_rfl) (by omega) ?_
      refine G.add (i : Int) 1 ((i + 1 : Nat) : Int) (by kernel_rfl) (by omega) (by omega) (by omega) ?_
      exact G.back (by kernel_rfl) (hJ (i + 1) _ _ _ ⟨by kernel_rfl, by kernel_rfl, by kernel_rfl⟩ le23 (by omega) (by omega))
  · obtain rfl : i = 4 := by omega
    refine G.lssF ((4 : Nat) : Int) ((4 : Nat) : Int) (by kernel_rfl) (by omega) ?_
    refine G.call0 _ _ (by kernel_rfl) Tryz.call8 (sane0 (ht6.mono l7)) ?_
    rintro v8 u8 l8 rfl
    refine G.drop PH.mt (by kernel_rfl) (PH.mt_le _) ?_
    exact G.ret (.bool true) (by kernel_rfl) ⟨rfl, rfl⟩
end Go.Proofs.YtikfmknnbjocmaaGreatDoor
end
