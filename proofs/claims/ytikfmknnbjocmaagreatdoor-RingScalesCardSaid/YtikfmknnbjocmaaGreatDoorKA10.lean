/- Joined out of parts of one proof by a program: contracts of the functions that the statement reaches, and the plain facts behind them. -/
import Derived.Test.YtikfmknnbjocmaaGreatDoorKA09
set_option linter.unusedVariables false
set_option linter.unusedSimpArgs false
set_option linter.unusedSectionVars false
section
set_option linter.unusedSectionVars false
set_option linter.unusedVariables false
namespace Go.Proofs.YtikfmknnbjocmaaGreatDoor
open Go.RowKit Go.MapKept
theorem small_dig {z : Int} (h : z.natAbs < 1000000000000000000) : Lib.nDigits z.natAbs ≤ 400 := Nat.le_trans (dig_of_lt (k := 18) (by omega) (by omega)) (by omega)
theorem intSmall0 {u : PH} {z : Int} (h : z.natAbs < 1000000000000000000) : Fn0 Tryz.prog 79 [.string (mkS (Lib.itoa z))] u fun v _ => v = .tuple #[.int .i64 z, .bool true] := by
  refine Fn0.of Tryz.func79 (by kernel_rfl) (by kernel_rfl) ?_
  refine G.call0 _ _ (by kernel_rfl) Tryz.call104 (intValid0 (small_dig h)) ?_
  rintro v1 u1 l1 rfl
  refine G.call0 _ _ (by kernel_rfl) Tryz.call125 (intRead0 (small_dig h)) ?_
  intro v2 u2 l2 k2
  obtain ⟨b2, a2, n2, c2, rfl⟩ := k2.opn
  refine G.call0 _ _ (by kernel_rfl) Tryz.call126 (numSmall0 k2 h) ?_
  rintro v3 u3 l3 rfl
  exact G.ret (.tuple #[.int .i64 z, .bool true]) (by kernel_rfl) ⟨rfl, rfl⟩
theorem parts0 {u : PH} {q : Rat} (h : Tx q) : Fn0 Tryz.prog 78 [.string (mkS (ratT q))] u fun v _ => v = .tuple #[.string (mkS (Lib.itoa q.num)), .string (mkS (Lib.itoa (q.den : Int))), .bool true] := by
  refine Fn0.of Tryz.func78 (by kernel_rfl) (by kernel_rfl) ?_
  refine G.call0 _ _ (by kernel_rfl) Tryz.call52 (ratValid0 h) ?_
  rintro v1 u1 l1 rfl
  refine G.call0 _ _ (by kernel_rfl) Tryz.call103 (cutT h) ?_
  rintro v2 u2 l2 rfl
  by_cases hd : q.den = 1
  · rw [if_pos hd, decide_eq_false (by simp [hd]), hd, show ((1 : Nat) : Int) = 1 from rfl, itoa_one]
    exact G.ret (.tuple #[.string (mkS (Lib.itoa q.num)), .string (mkS [49]), .bool true]) (by kernel_rfl) ⟨rfl, rfl⟩
  · rw [if_neg hd, decide_eq_true hd]
    exact G.ret (.tuple #[.string (mkS (Lib.itoa q.num)), .string (mkS (Lib.itoa (q.den : Int))), .bool true]) (by kernel_rfl) ⟨rfl, rfl⟩
theorem bounded0 {u : PH} {z : Int} (h : z.natAbs ≤ 1000000000) : Fn0 Tryz.prog 77 [.string (mkS (Lib.itoa z))] u fun v _ => v = .bool true := by
  refine Fn0.of Tryz.func77 (by kernel_rfl) (by kernel_rfl) ?_
  refine G.call0 _ _ (by kernel_rfl) Tryz.call79 (intSmall0 (z := z) (by omega)) ?_
  rintro v1 u1 l1 rfl
  refine G.geqT z (-1000000000) (by kernel_rfl) (by omega) ?_
  refine G.leqT z 1000000000 (by kernel_rfl) (by omega) ?_
  exact G.ret (.bool true) (by kernel_rfl) ⟨rfl, rfl⟩
structure Dat (q : Rat) : Prop where
  num : q.num.natAbs ≤ 1000000000
  den : q.den ≤ 12
theorem Dat.tx {q : Rat} (h : Dat q) : Tx q := ⟨small_dig (by have := h.num; omega), by have := small_dig (z := (q.den : Int)) (by have := h.den; omega); simpa using this⟩
theorem ratT_nil {q : Rat} : ratT q ≠ [] := by
  intro e
  unfold ratT at e
  split at e
  · by_cases h : q.num < 0
    · rw [itoa_neg h] at e; cases e
    · rw [Lib.itoa, if_neg h] at e
      exact dec_ne_nil _ e
  · simp at e
theorem valueN0 {u : PH} {s : List UInt8} {q : Rat} (h : Dat q) : Fn0 Tryz.prog 42 [attV (s, 2), .string (mkS (ratT q))] u fun v _ => v = .bool true := by
  have hd := h.den
  have hp := q.den_pos
  refine Fn0.of Tryz.func42 (by kernel_rfl) (by kernel_rfl) ?_
  refine G.eqlF ((2 : Nat) : Int) 1 (by kernel_rfl) (by omega) ?_
  refine G.eqlT ((2 : Nat) : Int) 2 (by kernel_rfl) (by omega) ?_
  refine G.call0 _ _ (by kernel_rfl) Tryz.call78 (parts0 h.tx) ?_
  rintro v1 u1 l1 rfl
  refine G.call0 _ _ (by kernel_rfl) Tryz.call79 (intSmall0 (z := (q.den : Int)) (by omega)) ?_
  rintro v2 u2 l2 rfl
  refine G.eqSF (ratT q) [] (by kernel_rfl) ratT_nil ?_
  refine G.call0 _ _ (by kernel_rfl) Tryz.call77 (bounded0 h.num) ?_
  rintro v3 u3 l3 rfl
  refine G.geqT (q.den : Int) 1 (by kernel_rfl) (by omega) ?_
  refine G.leqT (q.den : Int) 12 (by kernel_rfl) (by omega) ?_
  exact G.ret (.bool true) (by kernel_rfl) ⟨rfl, rfl⟩
end Go.Proofs.YtikfmknnbjocmaaGreatDoor
end
section
set_option linter.unusedSectionVars false
set_option linter.unusedVariables false
namespace Go.Proofs.YtikfmknnbjocmaaGreatDoor
open Go.RowKit Go.MapKept
def CF.one1 (p : Par) (q : Rat) : CF := ⟨1, setF (fun _ => 0) p q, setF (fun _ => 0) (p, p) (q * q)⟩
theorem setF_zero {κ : Type} [DecidableEq κ] (a : κ) (k : κ) : setF (fun _ => (0 : Rat)) a 0 k = 0 := by unfold setF; split <;> rfl
set_option maxHeartbeats 2000000 in
theorem oneM0 {u : PH} {x : Value} {p : Par} {q : Rat} (hx : FracP u x q) (hs : SB q) (hs2 : SB (q * q)) :
    Contract Tryz.prog 84 [parV p, x] u PH.mt fun v' u' m' => MomM m' u' v' (CF.one1 p q) 1 := by
  obtain ⟨xb, xa, xn, xc, xb', xa', xn', xc', rfl⟩ := hx.opn
  refine Contract.of Tryz.func84 (by kernel_rfl) (by kernel_rfl) ?_
  refine G.callO _ _ (by kernel_rfl) Tryz.call83 (whole0 (n := 1) (by omega) (by omega)) ?_
  rintro v1 u1 m1 l1 r1 _
  rw [mt_or]
  obtain ⟨b, a, n, c, b', a', n', c', g1, g2, o1, o2, rfl, h1, hne, rfl, h4, h5⟩ := r1
  refine G.call0 _ _ (by kernel_rfl) Tryz.call127 (fracSign0 (hx.mono l1) (Nat.le_trans hs.sz.1 (by omega))) ?_
  rintro v2 u2 l2 rfl
  by_cases hq : q = 0
  · refine G.neqF (sgn q.num) 0 (by kernel_rfl) (fun e => e (sgn0.2 hq)) ?_
    subst hq
    exact G.ret (.agg #[.bool b, .slice a n c, .bool b', .slice a' n' c', .map (some g1), .map (some g2)]) (by kernel_rfl) ⟨b, a, n, c, b', a', n', c', g1, g2, o1, o2, rfl, h1.mono l2, hne, rfl, ((h4.mf l2).up (Nat.zero_le 1) (Nat.le_refl _)).congr fun k => (setF_zero p k).symm, ((h5.mf l2).up (Nat.zero_le 1) (Nat.le_refl _)).congr fun k => by
      show (0 : Rat) = setF (fun _ => (0 : Rat)) (p, p) (0 * 0) k
      rw [show (0 : Rat) * 0 = 0 by decide +kernel, setF_zero]⟩
  · refine G.neqT (sgn q.num) 0 (by kernel_rfl) (fun e => hq (sgn0.1 e)) ?_
    obtain ⟨l, ho, q2, q3, q4⟩ := (h4.mf l2).at
    refine G.mapPut (et := 88) keyPar g1 o1 l p (.agg #[.bool xb, .slice xa xn xc, .bool xb', .slice xa' xn' xc']) (by kernel_rfl) (by kernel_rfl) (by rw [upd_ne _ _ hne, upd_same]) ho ?_
    intro o1' ho1
    have r1 := MapR.put ho q2 q3 q4 ho1 (hx.mono (l1.trans l2)) (fun _ => hq) hs.sz (Nat.le_refl _)
    refine G.call0 _ _ (by kernel_rfl) Tryz.call94 (fracMul0 (hx.mono (l1.trans l2)) (hx.mono (l1.trans l2)) hs.big hs.big) ?_
    intro v3 u3 l3 r3
    obtain ⟨yb, ya, yn, yc, yb', ya', yn', yc', rfl⟩ := r3.opn
    obtain ⟨l', ho', q2', q3', q4'⟩ := (h5.mf (l2.trans l3)).at
    refine G.mapPut (et := 88) keyPr g2 o2 l' (p, p) (.agg #[.bool yb, .slice ya yn yc, .bool yb', .slice ya' yn' yc']) (by kernel_rfl) (by kernel_rfl) (by rw [upd_ne _ _ (Ne.symm hne), upd_same]) ho' ?_
    intro o2' ho2
    have hqq : q * q ≠ 0 := fun e => by
      rcases Rat.mul_eq_zero.1 e with e | e <;> exact hq e
    have r2 := MapR.put ho' q2' q3' q4' ho2 r3 (fun _ => hqq) hs2.sz (Nat.le_refl _)
    refine G.drop ((PH.mt.upd g1 o1').upd g2 o2') (by kernel_rfl) (fun g o hg => ?_) ?_
    · by_cases e : g = g2
      · subst e; rw [upd_same] at hg ⊢; exact hg
      · rw [upd_ne _ _ e] at hg ⊢
        by_cases e : g = g1
        · subst e; rw [upd_same] at hg ⊢; exact hg
        · rw [upd_ne _ _ e] at hg; cases hg
    exact G.ret (.agg #[.bool b, .slice a n c, .bool b', .slice a' n' c', .map (some g1), .map (some g2)]) (by kernel_rfl) ⟨b, a, n, c, b', a', n', c', g1, g2, o1', o2', rfl, h1.mono (l2.trans l3), hne, rfl, r1.mf l3, r2⟩
theorem oneP0 {u : PH} {x : Value} {p : Par} {q : Rat} (hx : FracP u x q) (hs : SB q) (hs2 : SB (q * q)) :
    Fn0 Tryz.prog 84 [parV p, x] u fun v' u' => MomP u' v' (CF.one1 p q) 1 :=
  Fn0.weak (Contract.giveAll (oneM0 hx hs hs2)) fun v u' ⟨u1, m1, l1, l2, h⟩ => h.give l1 l2
end Go.Proofs.YtikfmknnbjocmaaGreatDoor
end
section
set_option linter.unusedSectionVars false
set_option linter.unusedVariables false
namespace Go.Proofs.YtikfmknnbjocmaaGreatDoor
open Go.RowKit Go.MapKept
theorem isAtt0 {u m : PH} {f : Feat} {e a : Nat} (hb : ElP m e 0 (.int .i64 (a : Int))) : FnK Tryz.prog 82 [featV f, .pointer (some ⟨e, 0, none⟩)] u m fun v _ => v = .bool (f.1 == a) := by
  refine FnK.of Tryz.func82 (by kernel_rfl) (by kernel_rfl) ?_
  refine G.loadM none e 0 (.int .i64 (a : Int)) (by kernel_rfl) (by kernel_rfl) hb ?_
  by_cases h : f.1 = a
  · refine G.eqlT (f.1 : Int) (a : Int) (by kernel_rfl) (by omega) ?_
    rw [beq_iff_eq.2 h]
    exact G.ret (.bool true) (by kernel_rfl) ⟨rfl, rfl⟩
  · refine G.eqlF (f.1 : Int) (a : Int) (by kernel_rfl) (by omega) ?_
    rw [beq_eq_false_iff_ne.2 h]
    exact G.ret (.bool false) (by kernel_rfl) ⟨rfl, rfl⟩
def attF (F : List Feat) (a : Nat) : Int := idxF (fun f : Feat => f.1 == a) F
theorem liftLab0 {u : PH} {v : Value} {T : List (List UInt8 × Nat)} {R : List SRel} {F : List Feat} {a : Nat} {q : Rat} (h : SchP u v T R F (a : Int)) (ok : SchOK u T R F (a : Int)) (hq : Tx q) (hs : SB q) (hs2 : SB (q * q)) :
    Fn0 Tryz.prog 43 [v, .int .i64 (a : Int), .string (mkS (ratT q))] u fun v' u' => MomP u' v' (CF.one1 (-1, []) q) 1 := by
  obtain ⟨pa, ca, pb, cb, pe, ce, rfl, hT, hR, hF⟩ := h
  have hfl := ok.f2
  refine Fn0.of Tryz.func43 (by kernel_rfl) (by kernel_rfl) ?_
  refine G.pastI ?_
  refine G.pub 1 3 [.int .i64 (a : Int)] (by kernel_rfl) (by kernel_rfl) ?_
  intro e hu hm
  refine G.callK _ _ (by kernel_rfl) Tryz.call81 (fIndex0 (cap := .pointer (some ⟨e, 0, none⟩)) (fun f : Feat => f.1 == a) hF (by omega) Tryz.call82 fun f _ u' _ => isAtt0 (elP_int _ _ _ _)) ?_
  rintro v1 u1 l1 rfl
  refine G.loadM none e 0 (.int .i64 (a : Int)) (by kernel_rfl) (by kernel_rfl) (elP_int _ _ _ _) ?_
  refine G.eqlT (a : Int) (a : Int) (by kernel_rfl) rfl ?_
  refine G.eqSF (ratT q) [] (by kernel_rfl) ratT_nil ?_
  refine G.loadM none e 0 (.int .i64 (a : Int)) (by kernel_rfl) (by kernel_rfl) (elP_int _ _ _ _) ?_
  refine G.eqlT (a : Int) (a : Int) (by kernel_rfl) rfl ?_
  refine G.call0 _ _ (by kernel_rfl) Tryz.call54 (fracRead0 hq) ?_
  intro v2 u2 l2 r2
  refine G.call0 _ _ (by kernel_rfl) Tryz.call84 (oneP0 (p := (-1, [])) r2 hs hs2) ?_
  intro v3 u3 l3 r3
  obtain ⟨b, x, n, c, b', x', n', c', g1, g2, rfl⟩ := momP_opn r3
  refine G.drop PH.mt (by kernel_rfl) (PH.mt_le _) ?_
  exact G.ret (.agg #[.bool b, .slice x n c, .bool b', .slice x' n' c', .map (some g1), .map (some g2)]) (by kernel_rfl) ⟨rfl, r3⟩
theorem liftNum0 {u : PH} {v : Value} {T : List (List UInt8 × Nat)} {R : List SRel} {F : List Feat} {lab : Int} {a k : Nat} {q : Rat} (h : SchP u v T R F lab) (ok : SchOK u T R F lab) (hl : (a : Int) ≠ lab) (hk : attF F a = (k : Int)) (hk2 : ∃ mi, F[k]? = some (a, 1, mi)) (hq : Tx q) (hs : SB q) (hs2 : SB (q * q)) :
    Fn0 Tryz.prog 43 [v, .int .i64 (a : Int), .string (mkS (ratT q))] u fun v' u' => MomP u' v' (CF.one1 ((k : Int), []) q) 1 := by
  obtain ⟨pa, ca, pb, cb, pe, ce, rfl, hT, hR, hF⟩ := h
  have hfl := ok.f2
  obtain ⟨mi, hmi⟩ := hk2
  refine Fn0.of Tryz.func43 (by kernel_rfl) (by kernel_rfl) ?_
  refine G.pastI ?_
  refine G.pub 1 3 [.int .i64 (a : Int)] (by kernel_rfl) (by kernel_rfl) ?_
  intro e hu hm
  refine G.callK _ _ (by kernel_rfl) Tryz.call81 (fIndex0 (cap := .pointer (some ⟨e, 0, none⟩)) (fun f : Feat => f.1 == a) hF (by omega) Tryz.call82 fun f _ u' _ => isAtt0 (elP_int _ _ _ _)) ?_
  rintro v1 u1 l1 rfl
  unfold attF at hk
  rw [hk]
  refine G.loadM none e 0 (.int .i64 (a : Int)) (by kernel_rfl) (by kernel_rfl) (elP_int _ _ _ _) ?_
  refine G.eqlF (a : Int) lab (by kernel_rfl) hl ?_
  refine G.loadM none e 0 (.int .i64 (a : Int)) (by kernel_rfl) (by kernel_rfl) (elP_int _ _ _ _) ?_
  refine G.eqlF (a : Int) lab (by kernel_rfl) hl ?_
  refine G.lssF (k : Int) 0 (by kernel_rfl) (by omega) ?_
  obtain ⟨bb, ob, rfl, eb⟩ := ListP.at' (hF.mono l1) (j := k) (e := featV (a, 1, mi)) (by simp [hmi])
  obtain ⟨hkl, _⟩ := List.getElem?_eq_some_iff.1 hmi
  refine G.addr bb ob F.length ce k 3 (by kernel_rfl) hkl ?_
  refine G.loadU (some 3) bb (ob + k * 3) (.agg #[.int .i64 (a : Int), .int .i64 ((1 : Nat) : Int), .int .i64 (mi : Int)]) (by kernel_rfl) (by kernel_rfl) eb ?_
  refine G.eqlF ((1 : Nat) : Int) 2 (by kernel_rfl) (by omega) ?_
  refine G.eqSF (ratT q) [] (by kernel_rfl) ratT_nil ?_
  refine G.eqSF (ratT q) [] (by kernel_rfl) ratT_nil ?_
  refine G.call0 _ _ (by kernel_rfl) Tryz.call54 (fracRead0 hq) ?_
  intro v2 u2 l2 r2
  refine G.call0 _ _ (by kernel_rfl) Tryz.call84 (oneP0 (p := ((k : Int), [])) r2 hs hs2) ?_
  intro v3 u3 l3 r3
  obtain ⟨b, x, n, c, b', x', n', c', g1, g2, rfl⟩ := momP_opn r3
  refine G.drop PH.mt (by kernel_rfl) (PH.mt_le _) ?_
  exact G.ret (.agg #[.bool b, .slice x n c, .bool b', .slice x' n' c', .map (some g1), .map (some g2)]) (by kernel_rfl) ⟨rfl, r3⟩
end Go.Proofs.YtikfmknnbjocmaaGreatDoor
end
section
set_option linter.unusedSectionVars false
set_option linter.unusedVariables false
namespace Go.Proofs.YtikfmknnbjocmaaGreatDoor
open Go.RowKit Go.MapKept
set_option maxHeartbeats 1000000 in
theorem sum0 {u : PH} {v : Value} {F : CF} {K : Nat} (p : Par) (h : CofP u v F K) (hK : K ≤ 1000000) : Fn0 Tryz.prog 18 [v, parV p] u fun r _ => r = .string (mkS (ratT (F.s p))) := by
  obtain ⟨T, Q, a1, c1, a2, c2, rfl, hT, hQ, cT, cQ, kT, kQ⟩ := h
  refine Fn0.of Tryz.func18 (by kernel_rfl) (by kernel_rfl) ?_
  refine G.loop (ι := Nat) (fun i => [(3, .p 1 0), (8, .v (.slice a1 T.length c1)), (9, .v (.int .i64 (T.length : Int))), (10, .v (.int .i64 (i : Int)))]) (fun _ => [(1, ⟨43, [.v (.int .i64 p.1), .v (.string (mkS p.2))]⟩)])
    (fun i u' m' => i ≤ T.length ∧ (∀ j (hj : j < T.length), j < i → (T[j]'hj).1 ≠ p) ∧ m' = PH.mt) (fun i => T.length - i) 0 (by kernel_rfl) (fun _ => by kernel_rfl) ⟨by kernel_rfl, by kernel_rfl, by kernel_rfl⟩ ⟨by omega, fun j hj h => by omega, rfl⟩ ?_
  rintro J i hJ u1 m1 l1 ⟨hi, h0, rfl⟩
  by_cases hlt : i < T.length
  · refine G.lssT (i : Int) (T.length : Int) (by kernel_rfl) (by omega) ?_
    have hTi : T[i]? = some T[i] := List.getElem?_eq_getElem hlt
    have hval := (cT.val _ (List.getElem_mem hlt)).1
    obtain ⟨ba, oa, rfl, ea⟩ := ListP.at' (hT.mono l1) (j := i) (e := termV T[i]) (by simp [hTi])
    refine G.addr ba oa T.length c1 i 3 (by kernel_rfl) (by omega) ?_
    refine G.loadU (some 3) ba (oa + i * 3) (.agg #[.int .i64 T[i].1.1, .string (mkS T[i].1.2), .string (mkS (ratT T[i].2))]) (by kernel_rfl) (by kernel_rfl) ea ?_
    by_cases he : T[i].1 = p
    · refine G.eqAgg 43 #[.int .i64 T[i].1.1, .string (mkS T[i].1.2)] #[.int .i64 p.1, .string (mkS p.2)] true (by kernel_rfl) (by kernel_rfl) (by kernel_rfl) (fun w => by rw [← decide_eq_true he]; exact keyPar.eq T[i].1 p w) ?_
      exact G.ret (.string (mkS (ratT T[i].2))) (by kernel_rfl) ⟨rfl, by rw [hval, he]⟩
    · refine G.eqAgg 43 #[.int .i64 T[i].1.1, .string (mkS T[i].1.2)] #[.int .i64 p.1, .string (mkS p.2)] false (by kernel_rfl) (by kernel_rfl) (by kernel_rfl) (fun w => by rw [← decide_eq_false he]; exact keyPar.eq T[i].1 p w) ?_
      refine G.add (i : Int) 1 ((i + 1 : Nat) : Int) (by kernel_rfl) (by omega) (by omega) (by omega) ?_
      exact G.back (by kernel_rfl) (hJ (i + 1) _ _ _ ⟨by kernel_rfl, by kernel_rfl, by kernel_rfl⟩ l1 ⟨by omega, fun j hj h => by
        rcases (by omega : j < i ∨ j = i) with e | rfl
        · exact h0 j hj e
        · exact he, rfl⟩ (by omega))
  · obtain rfl : i = T.length := by omega
    refine G.lssF (T.length : Int) (T.length : Int) (by kernel_rfl) (by omega) ?_
    have hz : F.s p = 0 := cT.out p fun hm => by
      obtain ⟨x, hx, e⟩ := List.mem_map.1 hm
      obtain ⟨j, hj, rfl⟩ := List.getElem_of_mem hx
      exact h0 j hj hj e
    exact G.ret (.string (mkS [48])) (by kernel_rfl) ⟨rfl, by rw [hz, ratT_zero]⟩
set_option maxHeartbeats 4000000 in
theorem product0 {u : PH} {v : Value} {F : CF} {K : Nat} (p q : Par) (h : CofP u v F K) (hK : K ≤ 1000000) : Fn0 Tryz.prog 20 [v, parV p, parV q] u fun r _ => r = .string (mkS (ratT (F.t (pairP p q)))) := by
  obtain ⟨T, Q, a1, c1, a2, c2, rfl, hT, hQ, cT, cQ, kT, kQ⟩ := h
  refine Fn0.of Tryz.func20 (by kernel_rfl) (by kernel_rfl) ?_
  by_cases hsw : cmpP q p < 0
  · rw [show pairP p q = (q, p) by unfold pairP; rw [if_pos ((ordP.sym _ _).1 hsw)]]
    refine G.call0 _ _ (by kernel_rfl) Tryz.call35 (less0 q p true (decide_eq_true hsw)) ?_
    rintro v0 u0 l0 rfl
    refine G.loop (ι := Nat) (fun i => [(4, .p 1 0), (5, .p 2 0), (15, .v (.slice a2 Q.length c2)), (16, .v (.int .i64 (Q.length : Int))), (17, .v (.int .i64 (i : Int)))]) (fun _ => [(1, ⟨43, [.v (.int .i64 q.1), .v (.string (mkS q.2))]⟩), (2, ⟨43, [.v (.int .i64 p.1), .v (.string (mkS p.2))]⟩)])
      (fun i u' m' => i ≤ Q.length ∧ (∀ j (hj : j < Q.length), j < i → (Q[j]'hj).1 ≠ (q, p)) ∧ m' = PH.mt) (fun i => Q.length - i) 0 (by kernel_rfl) (fun _ => by kernel_rfl) ⟨by kernel_rfl, by kernel_rfl, by kernel_rfl⟩ ⟨by omega, fun j hj h => by omega, rfl⟩ ?_
    rintro J i hJ u1 m1 l1 ⟨hi, h0, rfl⟩
    by_cases hlt : i < Q.length
    · refine G.lssT (i : Int) (Q.length : Int) (by kernel_rfl) (by omega) ?_
      have hTi : Q[i]? = some Q[i] := List.getElem?_eq_getElem hlt
      have hval := (cQ.val _ (List.getElem_mem hlt)).1
      obtain ⟨ba, oa, rfl, ea⟩ := ListP.at' (hQ.mono (l0.trans l1)) (j := i) (e := prtV Q[i]) (by simp [hTi])
      have hback : Q[i].1 ≠ (q, p) → ∀ j (hj : j < Q.length), j < i + 1 → (Q[j]'hj).1 ≠ (q, p) := fun hne j hj h => by
        rcases (by omega : j < i ∨ j = i) with e | rfl
        · exact h0 j hj e
        · exact hne
      refine G.addr ba oa Q.length c2 i 5 (by kernel_rfl) (by omega) ?_
      refine G.loadU (some 5) ba (oa + i * 5) (.agg #[.int .i64 Q[i].1.1.1, .string (mkS Q[i].1.1.2), .int .i64 Q[i].1.2.1, .string (mkS Q[i].1.2.2), .string (mkS (ratT Q[i].2))]) (by kernel_rfl) (by kernel_rfl) ea ?_
      by_cases he : Q[i].1.1 = q
      · refine G.eqAgg 43 #[.int .i64 Q[i].1.1.1, .string (mkS Q[i].1.1.2)] #[.int .i64 q.1, .string (mkS q.2)] true (by kernel_rfl) (by kernel_rfl) (by kernel_rfl) (fun w => by rw [← decide_eq_true he]; exact keyPar.eq Q[i].1.1 q w) ?_
        by_cases he2 : Q[i].1.2 = p
        · refine G.eqAgg 43 #[.int .i64 Q[i].1.2.1, .string (mkS Q[i].1.2.2)] #[.int .i64 p.1, .string (mkS p.2)] true (by kernel_rfl) (by kernel_rfl) (by kernel_rfl) (fun w => by rw [← decide_eq_true he2]; exact keyPar.eq Q[i].1.2 p w) ?_
          exact G.ret (.string (mkS (ratT Q[i].2))) (by kernel_rfl) ⟨rfl, by rw [hval, show Q[i].1 = (q, p) from Prod.ext he he2]⟩
        · refine G.eqAgg 43 #[.int .i64 Q[i].1.2.1, .string (mkS Q[i].1.2.2)] #[.int .i64 p.1, .string (mkS p.2)] false (by kernel_rfl) (by kernel_rfl) (by kernel_rfl) (fun w => by rw [← decide_eq_false he2]; exact keyPar.eq Q[i].1.2 p w) ?_
          refine G.add (i : Int) 1 ((i + 1 : Nat) : Int) (by kernel_rfl) (by omega) (by omega) (by omega) ?_
          exact G.back (by kernel_rfl) (hJ (i + 1) _ _ _ ⟨by kernel_rfl, by kernel_rfl, by kernel_rfl⟩ l1 ⟨by omega, hback fun e => he2 (congrArg Prod.snd e), rfl⟩ (by omega))
      · refine G.eqAgg 43 #[.int .i64 Q[i].1.1.1, .string (mkS Q[i].1.1.2)] #[.int .i64 q.1, .string (mkS q.2)] false (by kernel_rfl) (by kernel_rfl) (by kernel_rfl) (fun w => by rw [← decide_eq_false he]; exact keyPar.eq Q[i].1.1 q w) ?_
        refine G.add (i : Int) 1 ((i + 1 : Nat) : Int) (by kernel_rfl) (by omega) (by omega) (by omega) ?_
        exact G.back (by kernel_rfl) (hJ (i + 1) _ _ _ ⟨by kernel_rfl, by kernel_rfl, by kernel_rfl⟩ l1 ⟨by omega, hback fun e => he (congrArg Prod.fst e), rfl⟩ (by omega))
    · obtain rfl : i = Q.length := by omega
      refine G.lssF (Q.length : Int) (Q.length : Int) (by kernel_rfl) (by omega) ?_
      have hz : F.t (q, p) = 0 := cQ.out (q, p) fun hm => by
        obtain ⟨x, hx, e⟩ := List.mem_map.1 hm
        obtain ⟨j, hj, rfl⟩ := List.getElem_of_mem hx
        exact h0 j hj hj e
      exact G.ret (.string (mkS [48])) (by kernel_rfl) ⟨rfl, by rw [hz, ratT_zero]⟩
  · rw [show pairP p q = (p, q) by unfold pairP; rw [if_neg fun e => hsw ((ordP.sym _ _).2 e)]]
    refine G.call0 _ _ (by kernel_rfl) Tryz.call35 (less0 q p false (decide_eq_false hsw)) ?_
    rintro v0 u0 l0 rfl
    refine G.loop (ι := Nat) (fun i => [(4, .p 1 0), (5, .p 2 0), (15, .v (.slice a2 Q.length c2)), (16, .v (.int .i64 (Q.length : Int))), (17, .v (.int .i64 (i : Int)))]) (fun _ => [(1, ⟨43, [.v (.int .i64 p.1), .v (.string (mkS p.2))]⟩), (2, ⟨43, [.v (.int .i64 q.1), .v (.string (mkS q.2))]⟩)])
      (fun i u' m' => i ≤ Q.length ∧ (∀ j (hj : j < Q.length), j < i → (Q[j]'hj).1 ≠ (p, q)) ∧ m' = PH.mt) (fun i => Q.length - i) 0 (by kernel_rfl) (fun _ => by kernel_rfl) ⟨by kernel_rfl, by kernel_rfl, by kernel_rfl⟩ ⟨by omega, fun j hj h => by omega, rfl⟩ ?_
    rintro J i hJ u1 m1 l1 ⟨hi, h0, rfl⟩
    by_cases hlt : i < Q.length
    · refine G.lssT (i : Int) (Q.length : Int) (by kernel_rfl) (by omega) ?_
      have hTi : Q[i]? = some Q[i] := List.getElem?_eq_getElem hlt
      have hval := (cQ.val _ (List.getElem_mem hlt)).1
      obtain ⟨ba, oa, rfl, ea⟩ := ListP.at' (hQ.mono (l0.trans l1)) (j := i) (e := prtV Q[i]) (by simp [hTi])
      have hback : Q[i].1 ≠ (p, q) → ∀ j (hj : j < Q.length), j < i + 1 → (Q[j]'hj).1 ≠ (p, q) := fun hne j hj h => by
        rcases (by omega : j < i ∨ j = i) with e | rfl
        · exact h0 j hj e
        · exact hne
      refine G.addr ba oa Q.length c2 i 5 (by kernel_rfl) (by omega) ?_
      refine G.loadU (some 5) ba (oa + i * 5) (.agg #[.int .i64 Q[i].1.1.1, .string (mkS Q[i].1.1.2), .int .i64 Q[i].1.2.1, .string (mkS Q[i].1.2.2), .string (mkS (ratT Q[i].2))]) (by kernel_rfl) (by kernel_rfl) ea ?_
      by_cases he : Q[i].1.1 = p
      · refine G.eqAgg 43 #[.int .i64 Q[i].1.1.1, .string (mkS Q[i].1.1.2)] #[.int .i64 p.1, .string (mkS p.2)] true (by kernel_rfl) (by kernel_rfl) (by kernel_rfl) (fun w => by rw [← decide_eq_true he]; exact keyPar.eq Q[i].1.1 p w) ?_
        by_cases he2 : Q[i].1.2 = q
        · refine G.eqAgg 43 #[.int .i64 Q[i].1.2.1, .string (mkS Q[i].1.2.2)] #[.int .i64 q.1, .string (mkS q.2)] true (by kernel_rfl) (by kernel_rfl) (by kernel_rfl) (fun w => by rw [← decide_eq_true he2]; exact keyPar.eq Q[i].1.2 q w) ?_
          exact G.ret (.string (mkS (ratT Q[i].2))) (by kernel_rfl) ⟨rfl, by rw [hval, show Q[i].1 = (p, q) from Prod.ext he he2]⟩
        · refine G.eqAgg 43 #[.int .i64 Q[i].1.2.1, .string (mkS Q[i].1.2.2)] #[.int .i64 q.1, .string (mkS q.2)] false (by kernel_rfl) (by kernel_rfl) (by kernel_rfl) (fun w => by rw [← decide_eq_false he2]; exact keyPar.eq Q[i].1.2 q w) ?_
          refine G.add (i : Int) 1 ((i + 1 : Nat) : Int) (by kernel_rfl) (by omega) (by omega) (by omega) ?_
          exact G.back (by kernel_rfl) (hJ (i + 1) _ _ _ ⟨by kernel_rfl, by kernel_rfl, by kernel_rfl⟩ l1 ⟨by omega, hback fun e => he2 (congrArg Prod.snd e), rfl⟩ (by omega))
      · refine G.eqAgg 43 #[.int .i64 Q[i].1.1.1, .string (mkS Q[i].1.1.2)] #[.int .i64 p.1, .string (mkS p.2)] false (by kernel_rfl) (by kernel_rfl) (by kernel_rfl) (fun w => by rw [← decide_eq_false he]; exact keyPar.eq Q[i].1.1 p w) ?_
        refine G.add (i : Int) 1 ((i + 1 : Nat) : Int) (by kernel_rfl) (by omega) (by omega) (by omega) ?_
        exact G.back (by kernel_rfl) (hJ (i + 1) _ _ _ ⟨by kernel_rfl, by kernel_rfl, by kernel_rfl⟩ l1 ⟨by omega, hback fun e => he (congrArg Prod.fst e), rfl⟩ (by omega))
    · obtain rfl : i = Q.length := by omega
      refine G.lssF (Q.length : Int) (Q.length : Int) (by kernel_rfl) (by omega) ?_
      have hz : F.t (p, q) = 0 := cQ.out (p, q) fun hm => by
        obtain ⟨x, hx, e⟩ := List.mem_map.1 hm
        obtain ⟨j, hj, rfl⟩ := List.getElem_of_mem hx
        exact h0 j hj hj e
      exact G.ret (.string (mkS [48])) (by kernel_rfl) ⟨rfl, by rw [hz, ratT_zero]⟩
end Go.Proofs.YtikfmknnbjocmaaGreatDoor
end
section
set_option linter.unusedSectionVars false
set_option linter.unusedVariables false
namespace Go.Proofs.YtikfmknnbjocmaaGreatDoor
open Go.RowKit Go.MapKept
theorem one1_cfd {d N : Nat} {p : Par} {q : Rat} (h1 : Dn d N 1) (hq : Dn d N q) (h2 : Dn d N (q * q)) : CFD d N (CF.one1 p q) :=
  ⟨h1, fun k => by
    show Dn d N (setF (fun _ => (0 : Rat)) p q k)
    unfold setF; split
    · exact hq
    · exact Dn.zero _ _, fun k => by
    show Dn d N (setF (fun _ => (0 : Rat)) (p, p) (q * q) k)
    unfold setF; split
    · exact h2
    · exact Dn.zero _ _⟩
theorem one1_cfv {p : Par} {q : Rat} (hp : PV p) : CFV (CF.one1 p q) :=
  ⟨fun k hk => by
    have hk : setF (fun _ => (0 : Rat)) p q k ≠ 0 := hk
    unfold setF at hk
    split at hk
    · subst_vars; exact hp
    · exact absurd rfl hk, fun k hk => by
    have hk : setF (fun _ => (0 : Rat)) (p, p) (q * q) k ≠ 0 := hk
    unfold setF at hk
    split at hk
    · subst_vars
      exact ⟨hp, hp, fun e => by
      have e : 0 < cmpP p p := e
      have := (ordP.sym _ _).2 e
      omega⟩
    · exact absurd rfl hk⟩
set_option maxHeartbeats 1000000 in
theorem ringLift0 {u : PH} {v : Value} {T : List (List UInt8 × Nat)} {R : List SRel} {F : List Feat} {lab : Int} {a : Nat} {s : List UInt8} {x : List UInt8 × Nat} {H : CF} {N : Nat} (ht : TabU u) (h : SchP u v T R F lab) (ok : SchOK u T R F lab) (hx : T[a]? = some x)
    (hval : ∀ u', PH.le u u' → Fn0 Tryz.prog 42 [attV x, .string (mkS s)] u' fun r _ => r = .bool true)
    (hlift : ∀ u', PH.le u u' → Fn0 Tryz.prog 43 [v, .int .i64 (a : Int), .string (mkS s)] u' fun r u'' => MomP u'' r H N) (sH : CFS H) (hN : N ≤ 1000000) :
    Fn0 Tryz.prog 14 [v, .int .i64 (a : Int), .string (mkS s)] u fun r u' => RngP u' r H N := by
  have hc : ∀ u', PH.le u u' → Fn0 Tryz.prog 41 [v] u' fun r _ => r = .int .i64 0 := fun u' l => check0 (h.mono l) (ok.mono l)
  obtain ⟨pa, ca, pb, cb, pe, ce, rfl, hT, hR, hF⟩ := h
  obtain ⟨hal, _⟩ := List.getElem?_eq_some_iff.1 hx
  have ht2 := ok.t2
  refine Fn0.of Tryz.func14 (by kernel_rfl) (by kernel_rfl) ?_
  refine G.call0 _ _ (by kernel_rfl) Tryz.call41 (hc u (PH.le_refl _)) ?_
  rintro v1 u1 l1 rfl
  refine G.neqF 0 0 (by kernel_rfl) (by omega) ?_
  refine G.lssF (a : Int) 0 (by kernel_rfl) (by omega) ?_
  refine G.geqF (a : Int) (T.length : Int) (by kernel_rfl) (by omega) ?_
  obtain ⟨bb, ob, rfl, eb⟩ := ListP.at' (hT.mono l1) (j := a) (e := attV x) (by simp [hx])
  refine G.addr bb ob T.length ca a 2 (by kernel_rfl) hal ?_
  refine G.loadU (some 2) bb (ob + a * 2) (attV x) (by kernel_rfl) (by kernel_rfl) eb ?_
  refine G.call0 _ _ (by kernel_rfl) Tryz.call42 (hval u1 l1) ?_
  rintro v2 u2 l2 rfl
  refine G.call0 _ _ (by kernel_rfl) Tryz.call43 (hlift u2 (l1.trans l2)) ?_
  intro v3 u3 l3 k3
  obtain ⟨_, _, _, _, _, _, _, _, _, _, rfl⟩ := momP_opn k3
  refine G.call0 _ _ (by kernel_rfl) Tryz.call44 (cofactor0 (ht.mono ((l1.trans l2).trans l3)) k3 sH hN) ?_
  rintro v4 u4 l4 ⟨r, rfl, k4⟩
  obtain ⟨e1, f1, g1, e2, f2, g2, rfl⟩ := k4.opn
  exact G.ret _ (by kernel_rfl) ⟨rfl, _, rfl, k4⟩
def bothT : List (List UInt8 × Nat) := [([120], 2), ([121], 2)]
def bothR (g : Nat) : List SRel := [([114], [0, 1], (some ⟨g, 0, none⟩, 2))]
def bothF : List Feat := [(0, 1, 0)]
theorem ElsP.listP {u : PH} {g sz : Nat} {es : List Value} (h : ElsP u g 0 sz es) : ListP u (.slice (some ⟨g, 0, none⟩) es.length es.length) sz es := ⟨_, _, rfl, Nat.le_refl _, fun j e hj => ⟨g, 0, rfl, h j e hj⟩⟩
theorem names_of {L : List (List UInt8)} (h : (L.all wordB && decide L.Nodup) = true) : Names L := by
  rw [Bool.and_eq_true, List.all_eq_true, decide_eq_true_iff] at h
  exact ⟨h.1, h.2⟩
theorem bothOK {u : PH} {g : Nat} (h : ListP u (.slice (some ⟨g, 0, none⟩) 2 2) 1 (intsV [0, 1])) : SchOK u bothT (bothR g) bothF 1 where
  att := ⟨names_of (by decide +kernel), fun a ha => by simp [bothT] at ha; rcases ha with rfl | rfl <;> decide⟩
  rel := ⟨names_of (by show (([[114]] : List (List UInt8)).all wordB && decide ([[114]] : List (List UInt8)).Nodup) = true; decide +kernel), fun r hr => by simp [bothR] at hr; subst hr; simp, fun r hr a ha => by simp [bothR] at hr; subst hr; simp at ha; show a < 2; omega, fun r hr => by simp [bothR] at hr; subst hr; simp, fun r hr k x y h1 h2 => by
    simp [bothR] at hr; subst hr
    match k, h1, h2 with
    | 0, h1, h2 => simp at h1 h2; omega
    | k + 1, h1, h2 => simp at h2, fun a ha => ⟨_, List.mem_singleton.2 rfl, by
    have : a < 2 := ha
    simp; omega⟩, fun r hr => by simp [bothR] at hr; subst hr; exact h⟩
  feat := ⟨fun f hf => by simp [bothF] at hf; subst hf; exact ⟨[120], 2, rfl, .inl ⟨rfl, rfl, by decide⟩, by decide⟩, by decide⟩
  t1 := by decide
  t2 := by decide
  r1 := by show 0 < 1; omega
  r2 := by show 1 ≤ 6; omega
  f2 := by decide
  l1 := by decide
  l2 := fun l hl => by
    obtain rfl : l = 1 := by omega
    exact ⟨[121], rfl⟩
theorem both0 {u : PH} : Fn0 Tryz.prog 34 [] u fun v u' => ∃ g, SchP u' v bothT (bothR g) bothF 1 ∧ SchOK u' bothT (bothR g) bothF 1 := by
  refine Fn0.of Tryz.func34 (by kernel_rfl) (by kernel_rfl) ?_
  refine G.buildU 77 2 24 (.agg #[.string (mkS []), .int .i64 0]) [.agg #[.string (mkS [120]), .int .i64 ((2 : Nat) : Int)], .agg #[.string (mkS [121]), .int .i64 ((2 : Nat) : Int)]] (by kernel_rfl) (fun x hx => by
    simp only [List.mem_cons, List.not_mem_nil, or_false] at hx
    rcases hx with rfl | rfl <;> exact ⟨rfl, List.all_eq_true.1 rfl⟩) rfl (by omega) (by simp) (by simp) ?_
  intro g1 u1 l1 e1
  refine G.buildU 3 1 8 (.int .i64 0) [.int .i64 ((0 : Nat) : Int), .int .i64 ((1 : Nat) : Int)] (by kernel_rfl) (intsV_ok [0, 1]) rfl (by omega) (by simp) (by simp) ?_
  intro g2 u2 l2 e2
  refine G.buildU 79 2 40 (.agg #[.string (mkS []), .slice none 0 0]) [.agg #[.string (mkS [114]), .slice (some ⟨g2, 0, none⟩) 2 2]] (by kernel_rfl) (fun x hx => by
    simp only [List.mem_cons, List.not_mem_nil, or_false] at hx
    subst hx; exact ⟨rfl, List.all_eq_true.1 rfl⟩) rfl (by omega) (by simp) (by simp) ?_
  intro g3 u3 l3 e3
  refine G.buildU 50 3 24 (.agg #[.int .i64 0, .int .i64 0, .int .i64 0]) [.agg #[.int .i64 ((0 : Nat) : Int), .int .i64 ((1 : Nat) : Int), .int .i64 ((0 : Nat) : Int)]] (by kernel_rfl) (fun x hx => by
    simp only [List.mem_cons, List.not_mem_nil, or_false] at hx
    subst hx; exact ⟨rfl, List.all_eq_true.1 rfl⟩) rfl (by omega) (by simp) (by simp) ?_
  intro g4 u4 l4 e4
  exact G.ret (.agg #[.slice (some ⟨g1, 0, none⟩) 2 2, .slice (some ⟨g3, 0, none⟩) 1 1, .slice (some ⟨g4, 0, none⟩) 1 1, .int .i64 1]) (by kernel_rfl)
    ⟨rfl, g2, ⟨_, _, _, _, _, _, rfl, e1.listP.mono ((l2.trans l3).trans l4), e3.listP.mono l4, e4.listP⟩, bothOK (e2.listP.mono (l3.trans l4))⟩
end Go.Proofs.YtikfmknnbjocmaaGreatDoor
end
section
set_option linter.unusedSectionVars false
set_option linter.unusedVariables false
namespace Go.Proofs.YtikfmknnbjocmaaGreatDoor
open Go.RowKit Go.MapKept
abbrev sX : CF := CF.one1 (((0 : Nat) : Int), []) 2
abbrev sY : CF := CF.one1 (-1, []) 3
theorem sX_d : CFD 0 9 sX := one1_cfd ⟨1, by decide +kernel, by decide⟩ ⟨2, by decide +kernel, by decide⟩ ⟨4, by decide +kernel, by decide⟩
theorem sY_d : CFD 0 9 sY := one1_cfd ⟨1, by decide +kernel, by decide⟩ ⟨3, by decide +kernel, by decide⟩ ⟨9, by decide +kernel, by decide⟩
theorem sX_v : CFV sX := one1_cfv ⟨by decide, by decide, .inl rfl⟩
theorem sY_v : CFV sY := one1_cfv ⟨by decide, by decide, .inl rfl⟩
theorem sXY_s : CFS (sX.mul sY) := (sX_d.mul sY_d).cfs (by omega) (by decide +kernel)
theorem sXY_ok : MulOK sX sY := mulOK sX_d sY_d (by omega) (by decide +kernel) (by omega) (by omega)
theorem t2 : ratT 2 = [50] := by decide +kernel
theorem t3 : ratT 3 = [51] := by decide +kernel
theorem liftX0 {u : PH} {v : Value} {g : Nat} (ht : TabU u) (h : SchP u v bothT (bothR g) bothF 1) (ok : SchOK u bothT (bothR g) bothF 1) :
    Fn0 Tryz.prog 14 [v, .int .i64 0, .string (mkS [50])] u fun r u' => RngP u' r sX 1 := by
  have hd : Dat 2 := ⟨by decide, by decide⟩
  have h1 : ∀ u', Fn0 Tryz.prog 42 [attV ([120], 2), .string (mkS [50])] u' fun r _ => r = .bool true := fun u' => by
    have := valueN0 (u := u') (s := [120]) hd
    rw [t2] at this; exact this
  have h2 : ∀ u', PH.le u u' → Fn0 Tryz.prog 43 [v, .int .i64 ((0 : Nat) : Int), .string (mkS [50])] u' fun r u'' => MomP u'' r sX 1 := fun u' l => by
    have := liftNum0 (a := 0) (k := 0) (q := 2) (h.mono l) (ok.mono l) (by decide) (by decide +kernel) ⟨0, rfl⟩ hd.tx (by decide +kernel) (by decide +kernel)
    rw [t2] at this; exact this
  exact ringLift0 (a := 0) (x := ([120], 2)) ht h ok rfl (fun u' _ => h1 u') h2 (sX_d.cfs (by omega) (by decide +kernel)) (by omega)
theorem liftY0 {u : PH} {v : Value} {g : Nat} (ht : TabU u) (h : SchP u v bothT (bothR g) bothF 1) (ok : SchOK u bothT (bothR g) bothF 1) :
    Fn0 Tryz.prog 14 [v, .int .i64 1, .string (mkS [51])] u fun r u' => RngP u' r sY 1 := by
  have hd : Dat 3 := ⟨by decide, by decide⟩
  have h1 : ∀ u', Fn0 Tryz.prog 42 [attV ([121], 2), .string (mkS [51])] u' fun r _ => r = .bool true := fun u' => by
    have := valueN0 (u := u') (s := [121]) hd
    rw [t3] at this; exact this
  have h2 : ∀ u', PH.le u u' → Fn0 Tryz.prog 43 [v, .int .i64 ((1 : Nat) : Int), .string (mkS [51])] u' fun r u'' => MomP u'' r sY 1 := fun u' l => by
    have := liftLab0 (a := 1) (q := 3) (h.mono l) (ok.mono l) hd.tx (by decide +kernel) (by decide +kernel)
    rw [t3] at this; exact this
  exact ringLift0 (a := 1) (x := ([121], 2)) ht h ok rfl (fun u' _ => h1 u') h2 (sY_d.cfs (by omega) (by decide +kernel)) (by omega)
set_option maxHeartbeats 4000000 in
theorem sane0 {u : PH} (ht : TabU u) : Fn0 Tryz.prog 8 [] u fun r _ => r = .bool true := by
  refine Fn0.of Tryz.func8 (by kernel_rfl) (by kernel_rfl) ?_
  refine G.call0 _ _ (by kernel_rfl) Tryz.call34 both0 ?_
  rintro v1 u1 l1 ⟨g1, h1, ok1⟩
  refine G.call0 _ _ (by kernel_rfl) Tryz.call14 (liftX0 (ht.mono l1) h1 ok1) ?_
  rintro v2 u2 l2 ⟨c2, rfl, k2⟩
  obtain ⟨a2, n2, d2, a2', n2', d2', rfl⟩ := k2.opn
  refine G.call0 _ _ (by kernel_rfl) Tryz.call34 both0 ?_
  rintro v3 u3 l3 ⟨g3, h3, ok3⟩
  refine G.call0 _ _ (by kernel_rfl) Tryz.call14 (liftY0 (ht.mono ((l1.trans l2).trans l3)) h3 ok3) ?_
  rintro v4 u4 l4 ⟨c4, rfl, k4⟩
  obtain ⟨a4, n4, d4, a4', n4', d4', rfl⟩ := k4.opn
  refine G.call0 _ _ (by kernel_rfl) Tryz.call15 (ringMul0 (ht.mono (((l1.trans l2).trans l3).trans l4)) (k2.mono (l3.trans l4)) k4 sX_v sY_v sXY_ok sXY_s (by omega) (by omega)) ?_
  rintro v5 u5 l5 ⟨c5, rfl, k5⟩
  obtain ⟨a5, n5, d5, a5', n5', d5', rfl⟩ := k5.opn
  refine G.eqlT 0 0 (by kernel_rfl) (by omega) ?_
  refine G.eqlT 0 0 (by kernel_rfl) (by omega) ?_
  refine G.eqlT 0 0 (by kernel_rfl) (by omega) ?_
  refine G.eqST (ratT (sX.mul sY).c) [49] (by kernel_rfl) (by decide +kernel) ?_
  refine G.call0 _ _ (by kernel_rfl) Tryz.call18 (sum0 (-1, []) k5 (by omega)) ?_
  rintro v6 u6 l6 rfl
  refine G.eqST (ratT ((sX.mul sY).s (-1, []))) [51] (by kernel_rfl) (by decide +kernel) ?_
  refine G.call0 _ _ (by kernel_rfl) Tryz.call18 (sum0 (0, []) (k5.mono l6) (by omega)) ?_
  rintro v7 u7 l7 rfl
  refine G.eqST (ratT ((sX.mul sY).s (0, []))) [50] (by kernel_rfl) (by decide +kernel) ?_
  refine G.call0 _ _ (by kernel_rfl) Tryz.call20 (product0 (0, []) (-1, []) (k5.mono (l6.trans l7)) (by omega)) ?_
  rintro v8 u8 l8 rfl
  refine G.eqST (ratT ((sX.mul sY).t (pairP (0, []) (-1, [])))) [54] (by kernel_rfl) (by decide +kernel) ?_
  refine G.call0 _ _ (by kernel_rfl) Tryz.call20 (product0 (-1, []) (-1, []) (k5.mono ((l6.trans l7).trans l8)) (by omega)) ?_
  rintro v9 u9 l9 rfl
  refine G.eqST (ratT ((sX.mul sY).t (pairP (-1, []) (-1, [])))) [57] (by kernel_rfl) (by decide +kernel) ?_
  refine G.call0 _ _ (by kernel_rfl) Tryz.call33 (valid0 (k5.mono (((l6.trans l7).trans l8).trans l9)) sXY_s (sX_v.mul sY_v) (by omega)) ?_
  rintro v10 u10 l10 rfl
  refine G.call0 _ _ (by kernel_rfl) Tryz.call35 (less0 (-1, []) (0, []) true (by decide +kernel)) ?_
  rintro v11 u11 l11 rfl
  refine G.call0 _ _ (by kernel_rfl) Tryz.call12 ringOne0 ?_
  rintro v12 u12 l12 rfl
  have hb := cofP_num u12 1
  rw [ratT_one] at hb ⊢
  refine G.call0 _ _ (by kernel_rfl) Tryz.call16 (same0 hb hb (by omega)) ?_
  rintro v13 u13 l13 rfl
  exact G.ret (.bool true) (by kernel_rfl) ⟨rfl, rfl⟩
end Go.Proofs.YtikfmknnbjocmaaGreatDoor
end
section
set_option linter.unusedSectionVars false
set_option linter.unusedVariables false
namespace Go.Proofs.YtikfmknnbjocmaaGreatDoor
open Go.RowKit
def blueL : List UInt8 := [98, 108, 117, 101]
def redL : List UInt8 := [114, 101, 100]
def P4 : List Par := [(-1, []), (0, []), (1, blueL), (1, redL)]
def rowQ (i : Nat) : List (Par × Par) := (P4.drop i).map fun q => (P4.getD i (0, []), q)
def preQ (i : Nat) : List (Par × Par) := (List.range i).flatMap rowQ
theorem preQ_succ (i : Nat) : preQ (i + 1) = preQ i ++ rowQ i := by unfold preQ; rw [List.range_succ, List.flatMap_append]; simp
theorem sortP4 : SortK cmpP P4 := by unfold SortK; decide +kernel
theorem sortQ4 : SortK cmpQ (preQ 4) := by unfold SortK; decide +kernel
theorem pvP4 : ∀ p ∈ P4, PV p := by
  intro p hp
  simp only [P4, List.mem_cons, List.not_mem_nil, or_false] at hp
  rcases hp with rfl | rfl | rfl | rfl
  · exact ⟨by decide, by decide, .inl rfl⟩
  · exact ⟨by decide, by decide, .inl rfl⟩
  · exact ⟨by decide, by decide, .inr (by decide)⟩
  · exact ⟨by decide, by decide, .inr (by decide)⟩
theorem preQ_pv : ∀ q ∈ preQ 4, q.1 ∈ P4 ∧ q.2 ∈ P4 ∧ ¬ 0 < cmpP q.1 q.2 := by decide +kernel
structure Dr {κ : Type} (L : List κ) (T : List (κ × Rat)) : Prop where
  sub : (T.map (·.1)).Sublist L
  val : ∀ p ∈ T, p.2 ≠ 0 ∧ SmR p.2
theorem Dr.nil {κ : Type} : Dr ([] : List κ) [] := ⟨List.Sublist.slnil, by simp⟩
theorem Dr.skip {κ : Type} {L : List κ} {T : List (κ × Rat)} (h : Dr L T) (k : κ) : Dr (L ++ [k]) T := ⟨h.sub.trans (List.sublist_append_left _ _), h.val⟩
theorem Dr.snoc {κ : Type} {L : List κ} {T : List (κ × Rat)} (h : Dr L T) (k : κ) {q : Rat} (h0 : q ≠ 0) (hs : SmR q) : Dr (L ++ [k]) (T ++ [(k, q)]) := by
  refine ⟨by rw [List.map_append]; exact h.sub.append (List.Sublist.refl _), fun p hp => ?_⟩
  rcases List.mem_append.1 hp with hp | hp
  · exact h.val p hp
  · simp at hp; subst hp; exact ⟨h0, hs⟩
theorem Dr.can {κ : Type} [DecidableEq κ] {c : κ → κ → Int} (hc : Ord c) {L : List κ} {T : List (κ × Rat)} (h : Dr L T) (hL : SortK c L) : Can c (fun k => assocQ k T) T := can_of hc (hL.sublist h.sub) fun p hp => (h.val p hp).1
theorem Dr.dn {κ : Type} [DecidableEq κ] {L : List κ} {T : List (κ × Rat)} (h : Dr L T) (k : κ) : Dn 1 108 (assocQ k T) := by
  rcases assocQ_cases k T with e | ⟨q, hq, e⟩
  · rw [e]; exact Dn.zero _ _
  · rw [e]; exact (h.val _ hq).2.dn
theorem Dr.mem {κ : Type} [DecidableEq κ] {L : List κ} {T : List (κ × Rat)} (h : Dr L T) {k : κ} (hk : assocQ k T ≠ 0) : k ∈ L := by
  rcases assocQ_cases k T with e | ⟨q, hq, e⟩
  · exact absurd e hk
  · exact h.sub.subset (List.mem_map.2 ⟨_, hq, rfl⟩)
def tArr (a : Option Addr) (c : Nat) (T : List (Par × Rat)) : Arr := ⟨.slice a T.length c, 99, 3, T.map termV⟩
def qArr (a : Option Addr) (c : Nat) (T : List ((Par × Par) × Rat)) : Arr := ⟨.slice a T.length c, 102, 5, T.map prtV⟩
theorem tArr_at {a : Option Addr} {c : Nat} {T : List (Par × Rat)} {m0 m : PH} : (tArr a c T).At m0 m = ArrAt m0 m (.slice a T.length c) 99 3 (T.map termV) := rfl
theorem qArr_at {a : Option Addr} {c : Nat} {T : List ((Par × Par) × Rat)} {m0 m : PH} : (qArr a c T).At m0 m = ArrAt m0 m (.slice a T.length c) 102 5 (T.map prtV) := rfl
theorem P4_at {i : Nat} (h : i < 4) : P4[i]? = some (P4.getD i (0, [])) := by
  rcases (by omega : i = 0 ∨ i = 1 ∨ i = 2 ∨ i = 3) with rfl | rfl | rfl | rfl <;> rfl
theorem P4_take {i : Nat} (h : i < 4) : P4.take (i + 1) = P4.take i ++ [P4.getD i (0, [])] := by
  rcases (by omega : i = 0 ∨ i = 1 ∨ i = 2 ∨ i = 3) with rfl | rfl | rfl | rfl <;> rfl
theorem rowQ_take {i j : Nat} (h : i + j < 4) : (rowQ i).take (j + 1) = (rowQ i).take j ++ [(P4.getD i (0, []), P4.getD (i + j) (0, []))] := by
  have e : (rowQ i)[j]? = some (P4.getD i (0, []), P4.getD (i + j) (0, [])) := by
    unfold rowQ
    rw [List.getElem?_map, List.getElem?_drop, P4_at h]; rfl
  rw [List.take_add_one, e]; rfl
theorem rowQ_len {i : Nat} (h : i ≤ 4) : (rowQ i).length = 4 - i := by unfold rowQ; simp [P4]
set_option maxHeartbeats 8000000 in
theorem srcCof0 {u : PH} {s : Src} {ts : List Int} {k : Nat} (h : SrcOK u s ts) (hk : k ≤ s.n) :
    Contract Tryz.prog 21 [s.ptr] u (s.M k) fun v u' m' => ∃ (F : CF) (k' : Nat), CofP u' v F 10 ∧ CFD 1 108 F ∧ CFV F ∧ k' ≤ s.n ∧ m' = s.M k' := by
  refine Contract.of Tryz.func21 (by kernel_rfl) (by kernel_rfl) ?_
  refine G.buildU 43 2 24 (.agg #[.int .i64 0, .string (mkS [])]) [.agg #[.int .i64 (-1), .string (mkS [])], .agg #[.int .i64 0, .string (mkS [])], .agg #[.int .i64 1, .string (mkS blueL)], .agg #[.int .i64 1, .string (mkS redL)]] (by kernel_rfl) (fun e he => by
    simp at he
    rcases he with rfl | rfl | rfl | rfl <;> exact ⟨rfl, fun y hy => by simp [Value.cells] at hy; rcases hy with rfl | rfl <;> rfl⟩) rfl (by omega) (by simp) (by simp) ?_
  intro gp u1 l1 ep
  have hP : ∀ i, i < 4 → ElP u1 gp (0 + i * 2) (parV (P4.getD i (0, []))) := fun i hi => ep i _ (by
    rcases (by omega : i = 0 ∨ i = 1 ∨ i = 2 ∨ i = 3) with rfl | rfl | rfl | rfl <;> rfl)
  refine G.callA _ _ (by kernel_rfl) (by kernel_rfl) Tryz.call22 (mt_or _).symm (apart_mt _) (srcRat0 (h.mono l1) hk) ?_
  rintro v2 u2 m2 l2 ⟨q0, k0, rfl, hq0, hk0, rfl⟩ _
  rw [mt_or]
  refine G.loop (ι := Nat × Nat × List (Par × Rat) × (Option Addr × Nat)) (fun i => [(0, .v s.ptr), (2, .p 0 0), (3, .v (.slice (some ⟨gp, 0, none⟩) 4 4)), (4, .p 2003 0), (21, .v (.slice (some ⟨gp, 0, none⟩) 4 4)), (22, .v (.int .i64 ((4 : Nat) : Int))), (23, .v (.int .i64 (i.1 : Int)))])
    (fun i => [(0, ⟨38, [.v (.string (mkS [])), .v (.slice none 0 0), .v (.slice none 0 0)]⟩), (2003, ⟨38, [.v (.string (mkS (ratT q0))), .v (.slice i.2.2.2.1 i.2.2.1.length i.2.2.2.2), .v (.slice none 0 0)]⟩)])
    (fun i u' m' => i.1 ≤ 4 ∧ i.2.1 ≤ s.n ∧ Dr (P4.take i.1) i.2.2.1 ∧ i.2.2.1.length ≤ i.1 ∧ Bag m' [s.arr i.2.1, tArr i.2.2.2.1 i.2.2.2.2 i.2.2.1])
    (fun i => 4 - i.1) (0, k0, [], (none, 0)) (by kernel_rfl) (fun _ => by kernel_rfl) ⟨by kernel_rfl, by kernel_rfl, by kernel_rfl⟩
    ⟨by simp, hk0, Dr.nil, by simp, s.bag0 k0 ⟨PH.mt, ArrAt.nil _ _ _, trivial⟩⟩ ?_
  rintro J ⟨i, k1, T, ⟨a, c⟩⟩ hJ u3 m3 l3 ⟨hi, hk1, hD, hTl, hbag⟩
  simp only at hi hk1 hD hTl hbag hJ
  have le3 := (l1.trans l2).trans l3
  by_cases hlt : i < 4
  · refine G.lssT (i : Int) ((4 : Nat) : Int) (by kernel_rfl) (by omega) ?_
    obtain ⟨p, hp⟩ : ∃ p, p = P4.getD i (0, []) := ⟨_, rfl⟩
    have hpe := (hP i hlt).mono (l2.trans l3)
    have htk := P4_take hlt
    rw [← hp] at hpe htk
    refine G.addr gp 0 4 4 i 2 (by kernel_rfl) hlt ?_
    refine G.loadU (some 2) gp (0 + i * 2) (.agg #[.int .i64 p.1, .string (mkS p.2)]) (by kernel_rfl) (by kernel_rfl) hpe ?_
    obtain ⟨m0, hsrc, hL⟩ := hbag
    obtain ⟨rfl, hg0⟩ := Src.split hsrc
    refine G.callA _ _ (by kernel_rfl) (by kernel_rfl) Tryz.call22 rfl (Src.apart hg0) (srcRat0 (h.mono le3) hk1) ?_
    rintro v4 u4 m4 l4 ⟨q, k2, rfl, hq, hk2, rfl⟩ _
    by_cases hq0' : q = 0
    · refine G.neSF (ratT q) [48] (by kernel_rfl) (by rw [hq0', ratT_zero]) ?_
      refine G.add (i : Int) 1 ((i + 1 : Nat) : Int) (by kernel_rfl) (by omega) (by omega) (by omega) ?_
      exact G.back (by kernel_rfl) (hJ (i + 1, k2, T, (a, c)) _ _ _ ⟨by kernel_rfl, by kernel_rfl, by kernel_rfl⟩ (l3.trans l4) ⟨by dsimp only; omega, hk2, by dsimp only; rw [htk]; exact hD.skip p, by dsimp only; omega, ⟨m0, Src.at hg0, hL⟩⟩ (by dsimp only; omega))
    · refine G.neST (ratT q) [48] (by kernel_rfl) (ratT_ne0 hq0') ?_
      refine G.callA _ _ (by kernel_rfl) (by kernel_rfl) Tryz.call37 rfl (Src.apart hg0) (srcN0 (n := 2) (h.mono (le3.trans l4)) hk2 (by omega) (by omega)) ?_
      rintro v5 u5 m5 l5 ⟨r, k3, rfl, hr, hk3, rfl⟩ _
      by_cases hr1 : r = 1
      · refine G.eqlT (r : Int) 1 (by kernel_rfl) (by omega) ?_
        refine G.buildU 99 3 40 (.agg #[.int .i64 0, .string (mkS []), .string (mkS [])]) [.agg #[.int .i64 p.1, .string (mkS p.2), .string (mkS (ratT q))]] (by kernel_rfl) (termV_ok (p, q)) rfl (by omega) (by simp) (by simp) ?_
        intro g6 u6 l6 e6
        have hbag2 : Bag (m0.or (s.M k3)) [s.arr k3, tArr a c T] := ⟨m0, Src.at hg0, hL⟩
        obtain ⟨mm, hx0, hput⟩ := hbag2.focus 1 rfl
        rw [tArr_at] at hx0
        refine G.append 99 3 40 (.agg #[.int .i64 0, .string (mkS []), .string (mkS [])]) mm (T.map termV) [.agg #[.int .i64 p.1, .string (mkS p.2), .string (mkS (ratT q))]] (.slice a T.length c) g6 0 1 1 (by kernel_rfl) rfl rfl (by omega) hx0 e6 (termV_ok (p, q)) rfl (by omega) (by simp; omega) (by simp; omega) ?_
        intro v7 m7 hx7
        rw [show T.map termV ++ [.agg #[.int .i64 p.1, .string (mkS p.2), .string (mkS (ratT q))]] = (T ++ [(p, q)]).map termV by rw [List.map_append]; rfl] at hx7
        obtain ⟨a7, c7, rfl⟩ := hx7.shape
        rw [List.length_map] at hx7 ⊢
        have hbag3 := hput (tArr a7 c7 (T ++ [(p, q)])) m7 hx7
        refine G.add (i : Int) 1 ((i + 1 : Nat) : Int) (by kernel_rfl) (by omega) (by omega) (by omega) ?_
        exact G.back (by kernel_rfl) (hJ (i + 1, k3, T ++ [(p, q)], (a7, c7)) _ _ _ ⟨by kernel_rfl, by kernel_rfl, by kernel_rfl⟩ (((l3.trans l4).trans l5).trans l6) ⟨by dsimp only; omega, hk3, by dsimp only; rw [htk]; exact hD.snoc p hq0' hq, by dsimp only; simp; omega, hbag3⟩ (by dsimp only; omega))
      · refine G.eqlF (r : Int) 1 (by kernel_rfl) (by omega) ?_
        refine G.add (i : Int) 1 ((i + 1 : Nat) : Int) (by kernel_rfl) (by omega) (by omega) (by omega) ?_
        exact G.back (by kernel_rfl) (hJ (i + 1, k3, T, (a, c)) _ _ _ ⟨by kernel_rfl, by kernel_rfl, by kernel_rfl⟩ ((l3.trans l4).trans l5) ⟨by dsimp only; omega, hk3, by dsimp only; rw [htk]; exact hD.skip p, by dsimp only; omega, ⟨m0, Src.at hg0, hL⟩⟩ (by dsimp only; omega))
  obtain rfl : i = 4 := by omega
  refine G.lssF ((4 : Nat) : Int) ((4 : Nat) : Int) (by kernel_rfl) (by omega) ?_
  obtain ⟨m0, hsrc, hL⟩ := hbag
  refine G.loop (ι := Nat × Nat × List ((Par × Par) × Rat) × (Option Addr × Nat)) (fun i => [(0, .v s.ptr), (2, .p 0 0), (3, .v (.slice (some ⟨gp, 0, none⟩) 4 4)), (4, .p 2003 0), (45, .v (.slice (some ⟨gp, 0, none⟩) 4 4)), (46, .v (.int .i64 ((4 : Nat) : Int))), (47, .v (.int .i64 (i.1 : Int)))])
    (fun i => [(0, ⟨38, [.v (.string (mkS [])), .v (.slice none 0 0), .v (.slice none 0 0)]⟩), (2003, ⟨38, [.v (.string (mkS (ratT q0))), .v (.slice a T.length c), .v (.slice i.2.2.2.1 i.2.2.1.length i.2.2.2.2)]⟩)])
    (fun i u' m' => i.1 ≤ 4 ∧ i.2.1 ≤ s.n ∧ Dr (preQ i.1) i.2.2.1 ∧ i.2.2.1.length ≤ 10 ∧ Bag m' [s.arr i.2.1, qArr i.2.2.2.1 i.2.2.2.2 i.2.2.1, tArr a c T])
    (fun i => 4 - i.1) (0, k1, [], (none, 0)) (by kernel_rfl) (fun _ => by kernel_rfl) ⟨by kernel_rfl, by kernel_rfl, by kernel_rfl⟩
    ⟨by simp, hk1, Dr.nil, by simp, ⟨m0, hsrc, m0, ArrAt.nil _ _ _, hL⟩⟩ ?_
  rintro J2 ⟨i, k2, Q, ⟨qa, qc⟩⟩ hJ2 u4 m4 l4 ⟨hi2, hk2, hQD, hQl, hbag2⟩
  simp only at hi2 hk2 hQD hQl hbag2 hJ2
  have le4 := le3.trans l4
  have hPu : ∀ u', PH.le u4 u' → ∀ i, i < 4 → ElP u' gp (0 + i * 2) (parV (P4.getD i (0, []))) := fun u' hl i hi => (hP i hi).mono (((l2.trans l3).trans l4).trans hl)
  by_cases hlt : i < 4
  · refine G.lssT (i : Int) ((4 : Nat) : Int) (by kernel_rfl) (by omega) ?_
    obtain ⟨p, hp⟩ : ∃ p, p = P4.getD i (0, []) := ⟨_, rfl⟩
    have hpe := hPu u4 (PH.le_refl _) i hlt
    rw [← hp] at hpe
    refine G.addr gp 0 4 4 i 2 (by kernel_rfl) hlt ?_
    refine G.loadU (some 2) gp (0 + i * 2) (.agg #[.int .i64 p.1, .string (mkS p.2)]) (by kernel_rfl) (by kernel_rfl) hpe ?_
    refine G.sliceFrom gp 0 4 4 i 2 (by kernel_rfl) (by omega) hlt ?_
    refine G.loop (ι := Nat × Nat × List ((Par × Par) × Rat) × (Option Addr × Nat)) (fun j => [(0, .v s.ptr), (2, .p 0 0), (3, .v (.slice (some ⟨gp, 0, none⟩) 4 4)), (4, .p 2003 0), (9, .p 12003 0), (45, .v (.slice (some ⟨gp, 0, none⟩) 4 4)), (46, .v (.int .i64 ((4 : Nat) : Int))), (47, .v (.int .i64 (i : Int))), (54, .v (.slice (some ⟨gp, 0 + i * 2, none⟩) (4 - i) (4 - i))), (55, .v (.int .i64 ((4 - i : Nat) : Int))), (56, .v (.int .i64 (j.1 : Int)))])
      (fun j => [(0, ⟨38, [.v (.string (mkS [])), .v (.slice none 0 0), .v (.slice none 0 0)]⟩), (2003, ⟨38, [.v (.string (mkS (ratT q0))), .v (.slice a T.length c), .v (.slice j.2.2.2.1 j.2.2.1.length j.2.2.2.2)]⟩), (12003, ⟨43, [.v (.int .i64 p.1), .v (.string (mkS p.2))]⟩)])
      (fun j u' m' => j.1 ≤ 4 - i ∧ j.2.1 ≤ s.n ∧ Dr (preQ i ++ (rowQ i).take j.1) j.2.2.1 ∧ Bag m' [s.arr j.2.1, qArr j.2.2.2.1 j.2.2.2.2 j.2.2.1, tArr a c T])
      (fun j => 4 - i - j.1) (0, k2, Q, (qa, qc)) (by kernel_rfl) (fun _ => by kernel_rfl) ⟨by kernel_rfl, by kernel_rfl, by kernel_rfl⟩
      ⟨by simp, hk2, by simpa using hQD, hbag2⟩ ?_
    rintro J3 ⟨j, k3, R, ⟨ra, rc⟩⟩ hJ3 u5 m5 l5 ⟨hj, hk3, hRD, hbag3⟩
    simp only at hj hk3 hRD hbag3 hJ3
    have hRl : R.length ≤ 10 := by
      have h1 := hRD.sub.length_le
      have h2 : ∀ a : Fin 4, ∀ b : Fin 5, (preQ a.val ++ (rowQ a.val).take b.val).length ≤ 10 := by decide +kernel
      have h3 := h2 ⟨i, hlt⟩ ⟨j, by omega⟩
      rw [List.length_map] at h1
      exact Nat.le_trans h1 h3
    have le5 := le4.trans l5
    by_cases hltj : j < 4 - i
    · refine G.lssT (j : Int) ((4 - i : Nat) : Int) (by kernel_rfl) (by omega) ?_
      obtain ⟨p', hp'⟩ : ∃ p', p' = P4.getD (i + j) (0, []) := ⟨_, rfl⟩
      have hpe' := hPu u5 l5 (i + j) (by omega)
      have htk := rowQ_take (i := i) (j := j) (by omega)
      rw [← hp'] at hpe' htk
      rw [← hp] at htk
      refine G.addr gp (0 + i * 2) (4 - i) (4 - i) j 2 (by kernel_rfl) hltj ?_
      refine G.loadU (some 2) gp (0 + i * 2 + j * 2) (.agg #[.int .i64 p'.1, .string (mkS p'.2)]) (by kernel_rfl) (by kernel_rfl) (by rw [show 0 + i * 2 + j * 2 = 0 + (i + j) * 2 by omega]; exact hpe') ?_
      obtain ⟨n0, hsrc3, hL3⟩ := hbag3
      obtain ⟨rfl, hg0⟩ := Src.split hsrc3
      refine G.callA _ _ (by kernel_rfl) (by kernel_rfl) Tryz.call22 rfl (Src.apart hg0) (srcRat0 (h.mono le5) hk3) ?_
      rintro v6 u6 m6 l6 ⟨q, k4, rfl, hq, hk4, rfl⟩ _
      by_cases hq0' : q = 0
      · refine G.neSF (ratT q) [48] (by kernel_rfl) (by rw [hq0', ratT_zero]) ?_
        refine G.add (j : Int) 1 ((j + 1 : Nat) : Int) (by kernel_rfl) (by omega) (by omega) (by omega) ?_
        exact G.back (by kernel_rfl) (hJ3 (j + 1, k4, R, (ra, rc)) _ _ _ ⟨by kernel_rfl, by kernel_rfl, by kernel_rfl⟩ (l5.trans l6) ⟨by dsimp only; omega, hk4, by dsimp only; rw [htk, ← List.append_assoc]; exact hRD.skip _, ⟨n0, Src.at hg0, hL3⟩⟩ (by dsimp only; omega))
      · refine G.neST (ratT q) [48] (by kernel_rfl) (ratT_ne0 hq0') ?_
        refine G.callA _ _ (by kernel_rfl) (by kernel_rfl) Tryz.call37 rfl (Src.apart hg0) (srcN0 (n := 2) (h.mono (le5.trans l6)) hk4 (by omega) (by omega)) ?_
        rintro v7 u7 m7 l7 ⟨r, k5, rfl, hr, hk5, rfl⟩ _
        by_cases hr1 : r = 1
        · refine G.eqlT (r : Int) 1 (by kernel_rfl) (by omega) ?_
          refine G.buildU 102 5 64 (.agg #[.int .i64 0, .string (mkS []), .int .i64 0, .string (mkS []), .string (mkS [])]) [.agg #[.int .i64 p.1, .string (mkS p.2), .int .i64 p'.1, .string (mkS p'.2), .string (mkS (ratT q))]] (by kernel_rfl) (prtV_ok ((p, p'), q)) rfl (by omega) (by simp) (by simp) ?_
          intro g8 u8 l8 e8
          have hbag4 : Bag (n0.or (s.M k5)) [s.arr k5, qArr ra rc R, tArr a c T] := ⟨n0, Src.at hg0, hL3⟩
          obtain ⟨mm, hx0, hput⟩ := hbag4.focus 1 rfl
          rw [qArr_at] at hx0
          refine G.append 102 5 64 (.agg #[.int .i64 0, .string (mkS []), .int .i64 0, .string (mkS []), .string (mkS [])]) mm (R.map prtV) [.agg #[.int .i64 p.1, .string (mkS p.2), .int .i64 p'.1, .string (mkS p'.2), .string (mkS (ratT q))]] (.slice ra R.length rc) g8 0 1 1 (by kernel_rfl) rfl rfl (by omega) hx0 e8 (prtV_ok ((p, p'), q)) rfl (by omega) (by simp; omega) (by simp; omega) ?_
          intro v9 m9 hx9
          rw [show R.map prtV ++ [.agg #[.int .i64 p.1, .string (mkS p.2), .int .i64 p'.1, .string (mkS p'.2), .string (mkS (ratT q))]] = (R ++ [((p, p'), q)]).map prtV by rw [List.map_append]; rfl] at hx9
          obtain ⟨a9, c9, rfl⟩ := hx9.shape
          rw [List.length_map] at hx9 ⊢
          have hbag5 := hput (qArr a9 c9 (R ++ [((p, p'), q)])) m9 hx9
          refine G.add (j : Int) 1 ((j + 1 : Nat) : Int) (by kernel_rfl) (by omega) (by omega) (by omega) ?_
          exact G.back (by kernel_rfl) (hJ3 (j + 1, k5, R ++ [((p, p'), q)], (a9, c9)) _ _ _ ⟨by kernel_rfl, by kernel_rfl, by kernel_rfl⟩ (((l5.trans l6).trans l7).trans l8) ⟨by dsimp only; omega, hk5, by dsimp only; rw [htk, ← List.append_assoc]; exact hRD.snoc _ hq0' hq, hbag5⟩ (by dsimp only; omega))
        · refine G.eqlF (r : Int) 1 (by kernel_rfl) (by omega) ?_
          refine G.add (j : Int) 1 ((j + 1 : Nat) : Int) (by kernel_rfl) (by omega) (by omega) (by omega) ?_
          exact G.back (by kernel_rfl) (hJ3 (j + 1, k5, R, (ra, rc)) _ _ _ ⟨by kernel_rfl, by kernel_rfl, by kernel_rfl⟩ ((l5.trans l6).trans l7) ⟨by dsimp only; omega, hk5, by dsimp only; rw [htk, ← List.append_assoc]; exact hRD.skip _, ⟨n0, Src.at hg0, hL3⟩⟩ (by dsimp only; omega))
    · obtain rfl : j = 4 - i := by omega
      refine G.lssF ((4 - i : Nat) : Int) ((4 - i : Nat) : Int) (by kernel_rfl) (by omega) ?_
      refine G.add (i : Int) 1 ((i + 1 : Nat) : Int) (by kernel_rfl) (by omega) (by omega) (by omega) ?_
      exact G.back (by kernel_rfl) (hJ2 (i + 1, k3, R, (ra, rc)) _ _ _ ⟨by kernel_rfl, by kernel_rfl, by kernel_rfl⟩ (l4.trans l5) ⟨by dsimp only; omega, hk3, by dsimp only; rw [preQ_succ]; rw [List.take_of_length_le (by rw [rowQ_len (by omega)]; exact Nat.le_refl _)] at hRD; exact hRD, hRl, hbag3⟩ (by dsimp only; omega))
  obtain rfl : i = 4 := by omega
  refine G.lssF ((4 : Nat) : Int) ((4 : Nat) : Int) (by kernel_rfl) (by omega) ?_
  obtain ⟨n0, hsrc2, hL2⟩ := hbag2
  obtain ⟨rfl, hg0⟩ := Src.split hsrc2
  refine G.giveP (ma := n0) (sm := s.M k2) (by kernel_rfl) rfl (Src.apart hg0) (s.h0 k k2) ?_
  intro u9 l9 hm
  have hLq : ListP u9 (.slice qa Q.length qc) 5 (Q.map prtV) := hL2.list hm 0 rfl
  have hLt : ListP u9 (.slice a T.length c) 3 (T.map termV) := hL2.list hm 1 rfl
  refine G.ret (.agg #[.string (mkS (ratT q0)), .slice a T.length c, .slice qa Q.length qc]) (by kernel_rfl) ⟨⟨q0, fun p => assocQ p T, fun q => assocQ q Q⟩, k2, ⟨T, Q, a, c, qa, qc, rfl, hLt, hLq, ?_, hQD.can ordQ sortQ4, by omega, hQl⟩, ⟨hq0.dn, fun p => hD.dn p, fun q => hQD.dn q⟩, ⟨fun p hp => ?_, fun q hq => ?_⟩, hk2, rfl⟩
  · exact hD.can ordP sortP4
  · exact pvP4 p (hD.mem hp)
  · obtain ⟨h1, h2, h3⟩ := preQ_pv q (hQD.mem hq)
    exact ⟨pvP4 _ h1, pvP4 _ h2, h3⟩
end Go.Proofs.YtikfmknnbjocmaaGreatDoor
end
section
set_option linter.unusedSectionVars false
set_option linter.unusedVariables false
namespace Go.Proofs.YtikfmknnbjocmaaGreatDoor
open Go.RowKit Go.MapKept
theorem cfv_num (q : Rat) : CFV (CF.num q) := CFV.count q
theorem cfd_num {d N : Nat} {q : Rat} (h : Dn d N q) : CFD d N (CF.num q) := CFD.count h
theorem scale_num (F : CF) (q : Rat) : F.mul (CF.num q) = F.scale q := (CF.scale_mul F q).symm
theorem scale_zero' (F : CF) : F.scale 0 = CF.num 0 := CF.ext' (by simp only [CF.scale, CF.num]; grind) (fun p => by simp only [CF.scale, CF.num]; grind) (fun q => by simp only [CF.scale, CF.num]; grind)
theorem pw {n : Nat} (h : n < 10 ^ 30) : n < 10 ^ 100 := Nat.lt_of_lt_of_le h (by decide +kernel)
set_option maxHeartbeats 8000000 in
theorem ringScales0 {u : PH} {v : Value} {ts : List Int} (ht : TabU u) (hv : ListP u v 1 (intsZ ts)) (hlo : ∀ t ∈ ts, -9223372036854775808 ≤ t) (hhi : ∀ t ∈ ts, t ≤ 9223372036854775807) :
    Fn0 Tryz.prog 4 [v] u fun v' _ => v' = .bool true := by
  obtain ⟨a, c, rfl⟩ := hv.opn
  rw [intsZ_length] at hv ⊢
  refine Fn0.of Tryz.func4 (by kernel_rfl) (by kernel_rfl) ?_
  by_cases h400 : 400 < ts.length
  · refine G.gtrT (ts.length : Int) 400 (by kernel_rfl) (by omega) ?_
    refine G.call0 _ _ (by kernel_rfl) Tryz.call8 (sane0 ht) ?_
    rintro v1 u1 l1 rfl
    exact G.ret (.bool true) (by kernel_rfl) ⟨rfl, rfl⟩
  refine G.gtrF (ts.length : Int) 400 (by kernel_rfl) (by omega) ?_
  refine G.callO _ _ (by kernel_rfl) Tryz.call9 (srcNew0 hv (by omega) hlo hhi) ?_
  rintro v1 u1 m1 l1 ⟨s, rfl, rfl, hs⟩ _
  rw [mt_or]
  refine G.callA _ _ (by kernel_rfl) (by kernel_rfl) Tryz.call21 (mt_or _).symm (apart_mt _) (srcCof0 hs (Nat.zero_le _)) ?_
  rintro v2 u2 m2 l2 ⟨F, k2, cF, dF, vF, hk2, rfl⟩ _
  rw [mt_or]
  obtain ⟨a1, n1, c1, a1', n1', c1', rfl⟩ := cF.opn
  refine G.callA _ _ (by kernel_rfl) (by kernel_rfl) Tryz.call21 (mt_or _).symm (apart_mt _) (srcCof0 (hs.mono l2) hk2) ?_
  rintro v3 u3 m3 l3 ⟨H, k3, cH, dH, vH, hk3, rfl⟩ _
  rw [mt_or]
  obtain ⟨a2, n2, c2, a2', n2', c2', rfl⟩ := cH.opn
  refine G.callA _ _ (by kernel_rfl) (by kernel_rfl) Tryz.call22 (mt_or _).symm (apart_mt _) (srcRat0 (hs.mono (l2.trans l3)) hk3) ?_
  rintro v4 u4 m4 l4 ⟨q, k4, rfl, hq, hk4, rfl⟩ _
  rw [mt_or]
  have ht4 := ht.mono (((l1.trans l2).trans l3).trans l4)
  have cF4 := cF.mono (l3.trans l4)
  have cH4 := cH.mono l4
  have sF : CFS F := dF.cfs (by omega) (pw (by decide +kernel))
  have sH : CFS H := dH.cfs (by omega) (pw (by decide +kernel))
  have sq : SB q := hq.dn.small (by omega) (pw (by decide +kernel))
  have dx := dF.scale hq.dn
  have sx : CFS (F.scale q) := dx.cfs (by omega) (pw (by decide +kernel))
  have dab := dF.mul dH
  have sab : CFS (F.mul H) := dab.cfs (by omega) (pw (by decide +kernel))
  have du := dab.scale hq.dn
  have su : CFS ((F.mul H).scale q) := du.cfs (by omega) (pw (by decide +kernel))
  refine G.call0 _ _ (by kernel_rfl) Tryz.call23 (ringScale0 ht4 cF4 vF sF sq sx (by omega)) ?_
  rintro v5 u5 l5 ⟨w5, rfl, k5⟩
  obtain ⟨a5, n5, c5, a5', n5', c5', rfl⟩ := k5.opn
  refine G.call0 _ _ (by kernel_rfl) Tryz.call15 (ringMul0 (ht4.mono l5) (cF4.mono l5) (cofP_num u5 q) vF (cfv_num q) (mulOK dF (cfd_num hq.dn) (by omega) (pw (by decide +kernel)) (by omega) (by omega)) (by rw [scale_num]; exact sx) (by omega) (by omega)) ?_
  rintro v6 u6 l6 ⟨w6, rfl, k6⟩
  obtain ⟨a6, n6, c6, a6', n6', c6', rfl⟩ := k6.opn
  refine G.call0 _ _ (by kernel_rfl) Tryz.call15 (ringMul0 (ht4.mono (l5.trans l6)) (cF4.mono (l5.trans l6)) (cH4.mono (l5.trans l6)) vF vH (mulOK dF dH (by omega) (pw (by decide +kernel)) (by omega) (by omega)) sab (by omega) (by omega)) ?_
  rintro v7 u7 l7 ⟨w7, rfl, k7⟩
  obtain ⟨a7, n7, c7, a7', n7', c7', rfl⟩ := k7.opn
  refine G.call0 _ _ (by kernel_rfl) Tryz.call23 (ringScale0 (ht4.mono ((l5.trans l6).trans l7)) k7 (vF.mul vH) sab sq su (by omega)) ?_
  rintro v8 u8 l8 ⟨w8, rfl, k8⟩
  obtain ⟨a8, n8, c8, a8', n8', c8', rfl⟩ := k8.opn
  refine G.call0 _ _ (by kernel_rfl) Tryz.call15 (ringMul0 (ht4.mono (((l5.trans l6).trans l7).trans l8)) (k5.mono ((l6.trans l7).trans l8)) (cH4.mono (((l5.trans l6).trans l7).trans l8)) (vF.scale q) vH (mulOK dx dH (by omega) (pw (by decide +kernel)) (by omega) (by omega)) (by rw [← CF.mul_scale]; exact su) (by omega) (by omega)) ?_
  rintro v9 u9 l9 ⟨w9, rfl, k9⟩
  obtain ⟨a9, n9, c9, a9', n9', c9', rfl⟩ := k9.opn
  have le9 := ((((l5.trans l6).trans l7).trans l8).trans l9)
  have hz := ringScale0 (ht4.mono le9) (cF4.mono le9) vF sF SB.zero (by rw [scale_zero']; exact (cfd_num (Dn.zero 0 1)).cfs (by omega) (pw (by decide +kernel))) (by omega)
  rw [ratT_zero] at hz
  refine G.call0 _ _ (by kernel_rfl) Tryz.call23 hz ?_
  rintro v10 u10 l10 ⟨w10, rfl, k10⟩
  obtain ⟨a10, n10, c10, a10', n10', c10', rfl⟩ := k10.opn
  have k5' := k5.mono ((((l6.trans l7).trans l8).trans l9).trans l10)
  have k6' := k6.mono (((l7.trans l8).trans l9).trans l10)
  have k8' := k8.mono (l9.trans l10)
  have k9' := k9.mono l10
  rw [scale_num] at k6' ⊢
  rw [← CF.mul_scale] at k9' ⊢
  rw [scale_zero'] at k10 ⊢
  refine G.eqlT 0 0 (by kernel_rfl) (by omega) ?_
  refine G.eqlT 0 0 (by kernel_rfl) (by omega) ?_
  refine G.eqlT 0 0 (by kernel_rfl) (by omega) ?_
  refine G.eqlT 0 0 (by kernel_rfl) (by omega) ?_
  refine G.eqlT 0 0 (by kernel_rfl) (by omega) ?_
  refine G.eqlT 0 0 (by kernel_rfl) (by omega) ?_
  refine G.call0 _ _ (by kernel_rfl) Tryz.call16 (same0 k5' k6' (by omega)) ?_
  rintro v11 u11 l11 rfl
  refine G.call0 _ _ (by kernel_rfl) Tryz.call16 (same0 (k8'.mono l11) (k9'.mono l11) (by omega)) ?_
  rintro v12 u12 l12 rfl
  refine G.call0 _ _ (by kernel_rfl) Tryz.call17 ringZero0 ?_
  rintro v13 u13 l13 rfl
  refine G.call0 _ _ (by kernel_rfl) Tryz.call16 (same0 (k10.mono ((l11.trans l12).trans l13)) (cofP_num u13 0) (by omega)) ?_
  rintro v14 u14 l14 rfl
  refine G.call0 _ _ (by kernel_rfl) Tryz.call8 (sane0 (ht4.mono (le9.trans ((((l10.trans l11).trans l12).trans l13).trans l14)))) ?_
  rintro v15 u15 l15 rfl
  refine G.drop PH.mt (by kernel_rfl) (PH.mt_le _) ?_
  exact G.ret (.bool true) (by kernel_rfl) ⟨rfl, rfl⟩
end Go.Proofs.YtikfmknnbjocmaaGreatDoor
end
