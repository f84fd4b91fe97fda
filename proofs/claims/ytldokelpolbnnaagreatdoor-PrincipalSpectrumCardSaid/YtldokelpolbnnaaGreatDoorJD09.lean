/- Joined out of parts of one proof by a program: contracts of the functions that the statement reaches, and the plain facts behind them. -/
import Derived.Test.YtldokelpolbnnaaGreatDoorJD08
set_option linter.unusedVariables false
set_option linter.unusedSimpArgs false
set_option linter.unusedSectionVars false
section
set_option linter.unusedSectionVars false
set_option linter.unusedVariables false
namespace Go.Proofs.YtldokelpolbnnaaGreatDoor
open Go.RowKit
section rules
variable {P : Program} [Mixed P] {fn : Func} {Post : Spec} {st : List KI × S} {u m : PH}
theorem guard_slice {op : BinOp} {a b : Option Addr} {n c n' c' : Nat} (t : TypeId) (X Y : Operand) (w : World) : (eqGuard op t X Y (.slice a n c) (.slice b n' c')).run P w = .ok () w := by
  unfold eqGuard; split <;> simp
theorem G.nilF (e : TypeId) (a : Addr) (n c : Nat) (h : stopV P (adv P st) = .binT .eql (some (.slice e)) (.slice (some a) n c) (.slice none 0 0)) (k : G P fn Post (nx (adv P st) (.bool false)) u m) : G P fn Post st u m := by
  refine G.ask h (by simp) (fun env o hview w _ => ?_) k
  obtain ⟨t, X, Y, yt, e0, e1, e2, e3⟩ := view_binT hview
  obtain ⟨dst, opp, type, pos, after, guard⟩ := o
  simp only at e0; subst e0
  have : (Op.equal t (.slice (some a) n c) (.slice none 0 0)).run P w = .ok false w := by
    unfold Op.equal
    rw [show Op.maxDepth = 9999 + 1 from rfl, Op.equalIn]
    simp [run_underlying e3]
  simp [execOp, e1, e2, guard_slice, binOp, this]
theorem G.build0 (e : TypeId) (sz bt : Nat) (z : Value) (h : stopV P (adv P st) = .buildS (some (e, sz, bt, z)) 0 []) (k : ∀ g m', ArrAt m m' (.slice (some ⟨g, 0, none⟩) 0 0) e sz [] → G P fn Post (nx (adv P st) (.slice (some ⟨g, 0, none⟩) 0 0)) u m') : G P fn Post st u m := by
  refine G.big (K := fun v' u' m' => u' = u ∧ PH.le m m' ∧ ∃ g, v' = .slice (some ⟨g, 0, none⟩) 0 0 ∧ ArrAt m m' (.slice (some ⟨g, 0, none⟩) 0 0) e sz []) h (by simp) (fun env op hv => ?_) (.inl fun v u' m' hk => hk.2.1) (fun env o hview w hgd => ?_) (fun v' u' m' hle hk => ?_)
  · obtain ⟨t, qs, rfl, _⟩ := view_buildS hv; rfl
  · obtain ⟨t, qs, e1, e2, hi⟩ := view_buildS hview
    obtain ⟨dst, opp, type, pos, after, guard⟩ := o
    simp only at e1; subst e1
    obtain ⟨hu, i, hi1, hi2, rfl, rfl⟩ := elInfo_spec hi
    obtain ⟨g1, g2, g3, g4⟩ := hgd.newM (cs := #[]) (t := e) (by simp)
    refine does_value (w' := w.alloc (.cells #[] e (0, 0))) (v := .slice (some ⟨w.heap.size, 0, none⟩) 0 0) ?_ ⟨u, _, g1, g2, rfl, le_upd _ g3, _, rfl, fun _ h => absurd h (by simp), .inr ⟨w.heap.size, 0, [], g3, rfl, rfl, Nat.le_refl _, by simp [flat], by simp⟩⟩
    simp only [execOp, e2]
    have e0 : ∀ f : Nat → Value, Array.map f (Array.range 0) = #[] := fun f => by apply Array.eq_empty_of_size_eq_zero; simp
    simp [Instr.buildSlice, run_underlying hu, sizeOf, typeInfo, hi1, newRow, Instr.fill, e0]
  · obtain ⟨rfl, _, g, rfl, hk⟩ := hk
    exact k g m' hk
end rules
theorem ListP.take' {u : PH} {a : Option Addr} {n c sz : Nat} {es : List Value} (h : ListP u (.slice a n c) sz es) (k : Nat) (hk : k ≤ es.length) : ListP u (.slice a k c) sz (es.take k) := by
  obtain ⟨a', c', h1, h2, h3⟩ := h
  simp only [Value.slice.injEq] at h1
  obtain ⟨rfl, _, rfl⟩ := h1
  refine ⟨a, c, by rw [List.length_take, Nat.min_eq_left hk], by rw [List.length_take]; omega, fun j e hj => ?_⟩
  rw [List.getElem?_take] at hj
  split at hj
  · exact h3 j e hj
  · cases hj
theorem AtP.take {α : Type} {R : PH → Value → α → Prop} {u : PH} {es : List Value} {xs : List α} (h : AtP R u es xs) (k : Nat) : AtP R u (es.take k) (xs.take k) := by
  refine ⟨by simp [h.1], fun j x hj => ?_⟩
  rw [List.getElem?_take] at hj ⊢
  split at hj
  · rename_i hlt; rw [if_pos hlt]; exact h.2 j x hj
  · cases hj
theorem AtP.at {α : Type} {R : PH → Value → α → Prop} {u : PH} {es : List Value} {xs : List α} (h : AtP R u es xs) {j : Nat} (hj : j < xs.length) : ∃ e, es[j]? = some e ∧ R u e xs[j] := h.2 j _ (List.getElem?_eq_getElem hj)
theorem FracsP.opn {u : PH} {v : Value} {qs : List Rat} (h : FracsP u v qs) : ∃ a c, v = .slice a qs.length c := h.lp.opn
theorem FracsP.at {u : PH} {a : Option Addr} {n c : Nat} {qs : List Rat} (h : FracsP u (.slice a n c) qs) {j : Nat} (hj : j < qs.length) : ∃ b off b1 a1 n1 c1 b2 a2 n2 c2, a = some ⟨b, off, none⟩ ∧ ElP u b (off + j * 4) (.agg #[.bool b1, .slice a1 n1 c1, .bool b2, .slice a2 n2 c2]) ∧ FracP u (.agg #[.bool b1, .slice a1 n1 c1, .bool b2, .slice a2 n2 c2]) (gR qs j) := by
  obtain ⟨b, off, e, rfl, h1, h2⟩ := h.lp.at (List.getElem?_eq_getElem hj)
  obtain ⟨b1, a1, n1, c1, b2, a2, n2, c2, rfl⟩ := h2.opn
  refine ⟨b, off, b1, a1, n1, c1, b2, a2, n2, c2, rfl, h1, ?_⟩
  have : gR qs j = qs[j] := by simp [gR, hj]
  rw [this]; exact h2
theorem AtP.ok4 {u : PH} {es : List Value} {qs : List Rat} (h : AtP FracP u es qs) : ElsOK 4 es := by
  intro e he
  obtain ⟨j, hj, rfl⟩ := List.mem_iff_getElem.1 he
  obtain ⟨e', h1, h2⟩ := h.2 j (qs[j]'(by rw [← h.1]; exact hj)) (List.getElem?_eq_getElem _)
  rw [List.getElem?_eq_getElem hj] at h1
  rw [Option.some.inj h1]
  exact h2.ok _ (by simp)
theorem gR_at {l : List Rat} {i : Nat} (h : i < l.length) : gR l i = l[i] := by simp [gR, h]
theorem gR_mem {l : List Rat} {i : Nat} (h : i < l.length) : gR l i ∈ l := by rw [gR_at h]; exact List.getElem_mem h
theorem gR_take {p : List Rat} {n i : Nat} (h : i < n) : gR (p.take n) i = gR p i := by simp [gR, h]
def SzL (p : List Rat) (k : Nat) : Prop := ∀ q ∈ p, Sz q k
theorem SzL.at {p : List Rat} {k i : Nat} (h : SzL p k) (hi : i < p.length) : Sz (gR p i) k := h _ (gR_mem hi)
theorem SzL.mono {p : List Rat} {j k : Nat} (h : SzL p j) (hjk : j ≤ k) : SzL p k := fun q hq => (h q hq).mono hjk
theorem sgn_num (q : Rat) : sgn q.num = sg q := by
  rcases sg_cases q with ⟨h, e⟩ | ⟨h, e⟩ | ⟨h, e⟩
  · rw [e]; refine sgn_neg ?_
    have : ¬ (0 ≤ q.num) := fun h' => by have := Rat.num_nonneg.1 h'; grind
    omega
  · subst h; rw [e]; rfl
  · rw [e]; refine sgn_pos ?_
    have h1 : 0 ≤ q.num := Rat.num_nonneg.2 (by grind)
    have h2 : q.num ≠ 0 := fun h' => by have := Rat.num_eq_zero.1 h'; grind
    omega
theorem sg_eq_zero {q : Rat} : sg q = 0 ↔ q = 0 := by
  rcases sg_cases q with ⟨h, e⟩ | ⟨h, e⟩ | ⟨h, e⟩
  · rw [e]; constructor
    · intro h'; omega
    · intro h'; subst h'; simp at h
  · exact ⟨fun _ => h, fun _ => e⟩
  · rw [e]; constructor
    · intro h'; omega
    · intro h'; subst h'; simp at h
theorem fracSignS {u : PH} {x : Value} {q : Rat} (h : FracP u x q) {k : Nat} (hs : Sz q k) (hk : k ≤ 100000000000000) : Fn0 Tryz.prog 95 [x] u fun v _ => v = .int .i64 (sg q) := by
  rw [← sgn_num]; exact fracSign0 h (Nat.le_trans hs.1 hk)
theorem clonePoly0 {u : PH} {v : Value} {es : List Value} (h : ListP u v 4 es) (ho : ElsOK 4 es) (h0 : es ≠ []) (hn : es.length ≤ 1000000) :
    Contract Tryz.prog 94 [v] u PH.mt fun v' u' m' => ArrAt PH.mt m' v' 90 4 es := by
  obtain ⟨a, c, rfl⟩ := h.opn
  have hpos : 0 < es.length := List.length_pos_iff.2 h0
  obtain ⟨b, off, rfl, _⟩ := ListP.at' h (List.getElem?_eq_getElem hpos)
  refine Contract.of Tryz.func94 (by kernel_rfl) (by kernel_rfl) ?_
  refine G.nilF 90 ⟨b, off, none⟩ es.length c (by kernel_rfl) ?_
  refine G.build0 90 4 64 (.agg #[.bool false, .slice none 0 0, .bool false, .slice none 0 0]) (by kernel_rfl) ?_
  intro g m1 hA
  refine G.append 90 4 64 (.agg #[.bool false, .slice none 0 0, .bool false, .slice none 0 0]) PH.mt [] es (.slice (some ⟨g, 0, none⟩) 0 0) b off es.length c (by kernel_rfl) rfl rfl (by omega) hA h.els ho rfl hpos (by simp; omega) (by simp; omega) ?_
  intro v2 m2 hA2
  obtain ⟨a2, c2, rfl⟩ := hA2.shape
  exact G.ret _ (by kernel_rfl) hA2
set_option maxHeartbeats 1000000 in
theorem trim0 {u : PH} {v : Value} {p : List Rat} {k : Nat} (h : FracsP u v p) (hs : SzL p k) (hk : k ≤ 100000000000000) (hn : p.length ≤ 1000000) :
    Fn0 Tryz.prog 143 [v] u fun v' u' => FracsP u' v' (trimL p) := by
  obtain ⟨a, c, rfl⟩ := h.opn
  refine Fn0.of Tryz.func143 (by kernel_rfl) (by kernel_rfl) ?_
  refine G.loop (ι := Nat) (fun n => [(0, .v (.slice a p.length c)), (3, .v (.int .i64 (n : Int)))]) (fun _ => [])
    (fun n u' m' => n ≤ p.length ∧ trimGo p n = trimGo p p.length ∧ m' = PH.mt) (fun n => n) p.length (by kernel_rfl) (fun _ => by kernel_rfl) ⟨by kernel_rfl, by kernel_rfl, by kernel_rfl⟩ ⟨Nat.le_refl _, rfl, rfl⟩ ?_
  rintro J n hJ u1 m1 l1 ⟨hle, hgo, rfl⟩
  have fin : ∀ u2, PH.le u1 u2 → trimGo p n = n → FracsP u2 (.slice a n c) (trimL p) := by
    intro u2 l2 e
    obtain ⟨es, e1, e2⟩ := h
    have hl : es.length = p.length := e2.1
    unfold trimL
    rw [← hgo, e]
    exact ⟨es.take n, (e1.take' n (by omega)).mono (l1.trans l2), (AtP.take (show AtP FracP u es p from e2) n).mono (fun _ _ h => h.mono (l1.trans l2))⟩
  have hcap : p.length ≤ c := by
    obtain ⟨es, ⟨a', c', e1, e2, _⟩, e3⟩ := h
    simp only [Value.slice.injEq] at e1
    omega
  by_cases hpos : 0 < n
  · obtain ⟨n', rfl⟩ : ∃ n', n = n' + 1 := ⟨n - 1, by omega⟩
    refine G.gtrT ((n' + 1 : Nat) : Int) 0 (by kernel_rfl) (by omega) ?_
    refine G.sub ((n' + 1 : Nat) : Int) 1 (n' : Int) (by kernel_rfl) (by omega) (by omega) (by omega) ?_
    obtain ⟨b, off, b1, a1, n1, c1, b2, a2, n2, c2, rfl, e1, e2⟩ := (h.mono l1).at (j := n') (by omega)
    refine G.addr b off p.length c n' 4 (by kernel_rfl) (by omega) ?_
    refine G.loadU (some 4) b (off + n' * 4) _ (by kernel_rfl) (by kernel_rfl) e1 ?_
    refine G.call0 _ _ (by kernel_rfl) Tryz.call95 (fracSignS e2 (hs.at (by omega)) hk) ?_
    rintro v2 u2 l2 rfl
    by_cases hz : gR p n' = 0
    · refine G.eqlT (sg (gR p n')) 0 (by kernel_rfl) (sg_eq_zero.2 hz) ?_
      refine G.sub ((n' + 1 : Nat) : Int) 1 (n' : Int) (by kernel_rfl) (by omega) (by omega) (by omega) ?_
      refine G.back (by kernel_rfl) (hJ n' _ _ _ ⟨by kernel_rfl, by kernel_rfl, by kernel_rfl⟩ (l1.trans l2) ⟨by omega, ?_, rfl⟩ (by omega))
      rw [← hgo, trimGo, if_pos hz]
    · refine G.eqlF (sg (gR p n')) 0 (by kernel_rfl) (fun h => hz (sg_eq_zero.1 h)) ?_
      refine G.sliceTo 4 (some ⟨b, off, none⟩) p.length c (n' + 1) (by kernel_rfl) (by omega) ?_
      exact G.ret _ (by kernel_rfl) ⟨rfl, fin _ l2 (by rw [trimGo, if_neg hz])⟩
  · obtain rfl : n = 0 := by omega
    refine G.gtrF ((0 : Nat) : Int) 0 (by kernel_rfl) (by omega) ?_
    refine G.sliceTo 4 a p.length c 0 (by kernel_rfl) (by omega) ?_
    exact G.ret _ (by kernel_rfl) ⟨rfl, fin _ (PH.le_refl _) rfl⟩
theorem sz_one {z : Int} (h : z.natAbs < 1000000000) : Sz (z : Rat) 1 := ⟨nl_le_of_lt (by simpa using h), nl_le_of_lt (by simp)⟩
theorem sz_add2 {q r : Rat} {j k : Nat} (h : Sz q j) (h' : Sz r k) : Sz (q + r) (j + k + 1) := by
  rw [← add_new q r]
  have a1 := nl_mul q.num.natAbs r.den
  have a2 := nl_mul r.num.natAbs q.den
  have a3 := nl_mul q.den r.den
  have a4 := nl_add (q.num.natAbs * r.den) (r.num.natAbs * q.den)
  have a5 : (q.num * (r.den : Int) + r.num * (q.den : Int)).natAbs ≤ q.num.natAbs * r.den + r.num.natAbs * q.den := by
    refine Nat.le_trans (Int.natAbs_add_le _ _) ?_
    rw [Int.natAbs_mul, Int.natAbs_mul]; simp
  have a6 := nl_mono a5
  have := h.1; have := h.2; have := h'.1; have := h'.2
  exact sz_divInt (den_pos2 q r) (by omega) (by rw [Int.natAbs_mul]; simp only [Int.natAbs_natCast]; omega)
theorem sz_neg {q : Rat} {k : Nat} (h : Sz q k) : Sz (-q) k := ⟨by rw [Rat.neg_num, Int.natAbs_neg]; exact h.1, by rw [Rat.neg_den]; exact h.2⟩
theorem sz_sub2 {q r : Rat} {j k : Nat} (h : Sz q j) (h' : Sz r k) : Sz (q - r) (j + k + 1) := by
  rw [Rat.sub_eq_add_neg]; exact sz_add2 h (sz_neg h')
theorem sz_mul2 {q r : Rat} {j k : Nat} (h : Sz q j) (h' : Sz r k) : Sz (q * r) (j + k) := by
  rw [← mul_new q r]
  have a1 := nl_mul q.num.natAbs r.num.natAbs
  have a3 := nl_mul q.den r.den
  have := h.1; have := h.2; have := h'.1; have := h'.2
  exact sz_divInt (den_pos2 q r) (by rw [Int.natAbs_mul]; omega) (by rw [Int.natAbs_mul]; simp only [Int.natAbs_natCast]; omega)
set_option maxHeartbeats 1000000 in
theorem derivative0 {u : PH} {v : Value} {p : List Rat} {k : Nat} (h : FracsP u v p) (hs : SzL p k) (hk : k ≤ 100000000000) (hn : p.length ≤ 1000000) :
    Fn0 Tryz.prog 101 [v] u fun v' u' => FracsP u' v' (derL p) := by
  obtain ⟨a, c, rfl⟩ := h.opn
  refine Fn0.of Tryz.func101 (by kernel_rfl) (by kernel_rfl) ?_
  refine G.loop (ι := Nat × List Value × List Rat × (Option Addr × Nat × Nat)) (fun i => [(0, .v (.slice a p.length c)), (3, .v (.slice i.2.2.2.1 i.2.2.2.2.1 i.2.2.2.2.2)), (4, .v (.int .i64 ((i.1 + 1 : Nat) : Int)))]) (fun _ => [])
    (fun i u' m' => i.1 ≤ p.length - 1 ∧ derGo p (p.length - 1 - i.1) (i.1 + 1) i.2.2.1 = derL p ∧ i.2.2.1.length = i.1 ∧ AtP FracP u' i.2.1 i.2.2.1 ∧ ArrAt PH.mt m' (.slice i.2.2.2.1 i.2.2.2.2.1 i.2.2.2.2.2) 90 4 i.2.1) (fun i => p.length - 1 - i.1) (0, [], [], (none, 0, 0)) (by kernel_rfl) (fun _ => by kernel_rfl) ⟨by kernel_rfl, by kernel_rfl, by kernel_rfl⟩
    ⟨Nat.zero_le _, rfl, rfl, AtP.nil, ArrAt.nil _ _ _⟩ ?_
  rintro J ⟨i, es, out, ⟨a1, n1, c1⟩⟩ hJ u1 m1 l1 ⟨hi, hgo, hlo, hF, hA⟩
  simp only at hi hgo hlo hF hA hJ
  have hel := hF.1
  by_cases hlt : i + 1 < p.length
  · refine G.lssT ((i + 1 : Nat) : Int) (p.length : Int) (by kernel_rfl) (by omega) ?_
    obtain ⟨b, off, b1, a1', n1', c1', b2, a2, n2, c2, rfl, e1, e2⟩ := (h.mono l1).at (j := i + 1) hlt
    refine G.addr b off p.length c (i + 1) 4 (by kernel_rfl) hlt ?_
    refine G.loadU (some 4) b (off + (i + 1) * 4) _ (by kernel_rfl) (by kernel_rfl) e1 ?_
    refine G.call0 _ _ (by kernel_rfl) Tryz.call60 (fracOf0 (z := ((i + 1 : Nat) : Int)) (by omega) (by omega)) ?_
    intro v2 u2 l2 k2
    obtain ⟨b3, a3, n3, c3, b3', a3', n3', c3', rfl⟩ := k2.opn
    refine G.call0 _ _ (by kernel_rfl) Tryz.call93 (fracMul0 (e2.mono l2) k2 ((hs.at hlt).mono (by omega)) ((sz_one (by omega)).mono (by omega))) ?_
    intro v4 u4 l4 k4
    obtain ⟨b5, a5, n5, c5, b5', a5', n5', c5', rfl⟩ := k4.opn
    refine G.buildU 90 4 64 (.agg #[.bool false, .slice none 0 0, .bool false, .slice none 0 0]) [.agg #[.bool b5, .slice a5 n5 c5, .bool b5', .slice a5' n5' c5']] (by kernel_rfl) k4.ok rfl (by omega) (by simp) (by simp) ?_
    intro g u6 l6 e6
    refine G.append 90 4 64 (.agg #[.bool false, .slice none 0 0, .bool false, .slice none 0 0]) PH.mt es [.agg #[.bool b5, .slice a5 n5 c5, .bool b5', .slice a5' n5' c5']] (.slice a1 n1 c1) g 0 1 1 (by kernel_rfl) rfl rfl (by omega) hA e6 k4.ok rfl (by omega) (by omega) (by omega) ?_
    intro v7 m7 hA7
    obtain ⟨a7, c7, rfl⟩ := hA7.shape
    refine G.add ((i + 1 : Nat) : Int) 1 ((i + 1 + 1 : Nat) : Int) (by kernel_rfl) (by omega) (by omega) (by omega) ?_
    refine G.back (by kernel_rfl) (hJ (i + 1, es ++ [.agg #[.bool b5, .slice a5 n5 c5, .bool b5', .slice a5' n5' c5']], out ++ [gR p (i + 1) * ((((i + 1 : Nat) : Nat) : Int) : Rat)], (a7, (es ++ [Value.agg #[.bool b5, .slice a5 n5 c5, .bool b5', .slice a5' n5' c5']]).length, c7)) _ _ _ ⟨by kernel_rfl, by kernel_rfl, by kernel_rfl⟩ (((l1.trans l2).trans l4).trans l6) ⟨by dsimp only; omega, ?_, by dsimp only; simp [hlo], ?_, hA7⟩ (by dsimp only; omega))
    · dsimp only
      rw [← hgo, show p.length - 1 - i = (p.length - 1 - (i + 1)) + 1 by omega, derGo]
    · exact (hF.mono (fun _ _ h => h.mono ((l2.trans l4).trans l6))).snoc (k4.mono l6)
  · refine G.lssF ((i + 1 : Nat) : Int) (p.length : Int) (by kernel_rfl) (by omega) ?_
    refine G.give PH.mt es _ (by kernel_rfl) hA (fun _ => .inl rfl) ?_
    intro u3 l3 hL
    rw [show p.length - 1 - i = 0 by omega, derGo] at hgo
    rw [hgo] at hF
    exact G.ret (.slice a1 n1 c1) (by kernel_rfl) ⟨rfl, es, hL, hF.mono (fun _ _ h => h.mono l3)⟩
end Go.Proofs.YtldokelpolbnnaaGreatDoor
end
section
set_option linter.unusedSectionVars false
set_option linter.unusedVariables false
namespace Go.Proofs.YtldokelpolbnnaaGreatDoor
open Go.RowKit
def bd (S T : Nat) : Nat → Nat
  | 0 => S
  | t + 1 => bd S T t + (T + bd S T t) + 1
theorem bd_eq (S T : Nat) : ∀ t, bd S T t + (T + 1) = 2 ^ t * (S + T + 1)
  | 0 => by simp [bd]; omega
  | t + 1 => by
    have := bd_eq S T t
    rw [Nat.pow_succ, Nat.mul_comm (2 ^ t) 2, Nat.mul_assoc, ← this]
    simp only [bd]; omega
theorem bd_le {S T t : Nat} (ht : t ≤ 20) (h : S + T + 1 ≤ 500000) : bd S T t ≤ 1000000000000 := by
  have h1 := bd_eq S T t
  have h2 : 2 ^ t ≤ 2 ^ 20 := Nat.pow_le_pow_right (by omega) ht
  have h3 : 2 ^ t * (S + T + 1) ≤ 2 ^ 20 * 500000 := Nat.mul_le_mul h2 h
  omega
theorem bd_mono (S T t : Nat) : bd S T t ≤ bd S T (t + 1) := by simp only [bd]; omega
theorem SzL.set {p : List Rat} {k i : Nat} {q : Rat} (h : SzL p k) (hq : Sz q k) : SzL (p.set i q) k := by
  intro x hx
  rcases List.mem_or_eq_of_mem_set hx with hx | rfl
  · exact h x hx
  · exact hq
theorem horGo_length (x : Rat) (i : Nat) : ∀ (k : Nat) (l : List Rat), (horGo x i k l).length = l.length
  | 0, l => rfl
  | k + 1, l => by unfold horGo; split
                   · rfl
                   · rw [horGo_length x i k]; simp
theorem shiftGo_length (x : Rat) : ∀ (f i : Nat) (l : List Rat), (shiftGo x f i l).length = l.length
  | 0, _, l => rfl
  | f + 1, i, l => by unfold shiftGo; rw [shiftGo_length x f, horGo_length]
theorem shiftL_length (x : Rat) (p : List Rat) : (shiftL x p).length = p.length := shiftGo_length ..
theorem zer_lt : ∀ {l : List Rat} {i : Nat}, i < zer l → gR l i = 0
  | [], i, h => by simp [zer] at h
  | q :: l, 0, h => by unfold zer at h; split at h; · rename_i e; simp [gR, e]
                       · omega
  | q :: l, i + 1, h => by
    unfold zer at h; split at h
    · have := zer_lt (l := l) (i := i) (by omega)
      simpa [gR] using this
    · omega
theorem zer_at : ∀ {l : List Rat}, zer l < l.length → gR l (zer l) ≠ 0
  | [], h => by simp [zer] at h
  | q :: l, h => by
    unfold zer at h ⊢; split
    · rename_i e
      rw [if_pos e] at h
      have := zer_at (l := l) (by simp at h; omega)
      simpa [gR] using this
    · rename_i e; simpa [gR] using e
theorem var_start {l : List Rat} (h : zer l < l.length) : chg (sg (gR l (zer l))) (l.drop (zer l)) = var l := by
  unfold var
  have e : l.drop (zer l) = l[zer l] :: l.drop (zer l + 1) := List.drop_eq_getElem_cons h
  rw [e, gR_at h]
  simp only [chg]
  rw [if_neg]
  intro h'
  have : sg l[zer l] = 0 := by omega
  have := sg_eq_zero.1 this
  have h2 := zer_at h
  rw [gR_at h] at h2
  exact h2 this
theorem sg_abs (q : Rat) : -1 ≤ sg q ∧ sg q ≤ 1 := by rcases sg_cases q with ⟨_, e⟩ | ⟨_, e⟩ | ⟨_, e⟩ <;> rw [e] <;> omega
theorem chg_le : ∀ (l : List Rat) (s : Int), chg s l ≤ l.length
  | [], s => by simp [chg]
  | q :: l, s => by
    have i1 := chg_le l s
    have i2 := chg_le l (-s)
    unfold chg; split <;> simp <;> omega
theorem var_le (l : List Rat) : var l ≤ l.length := by
  unfold var
  split
  · omega
  · rename_i q r e
    have h1 := chg_le r (sg q)
    have h2 : (l.drop (zer l)).length = (q :: r).length := by rw [e]
    simp at h2; omega
set_option maxHeartbeats 4000000 in
theorem below0 {u : PH} {v y : Value} {p : List Rat} {x : Rat} {S T : Nat} (h : FracsP u v p) (hy : FracP u y x) (hs : SzL p S) (hx : Sz x T) (hST : S + T + 1 ≤ 500000) (hn : p.length ≤ 5) (hz : zer (shiftL x p) < p.length) :
    Fn0 Tryz.prog 49 [v, y] u fun v' _ => v' = .tuple #[.int .i64 (lessL p x), .int .i64 (equalL p x : Int)] := by
  obtain ⟨a, c, rfl⟩ := h.opn
  have hpos : 0 < p.length := by omega
  obtain ⟨es0, hL0, hF0⟩ := id h
  have hF0' : AtP FracP u es0 p := hF0
  have hel0 : es0.length = p.length := hF0.1
  have hyo := hy.opn
  obtain ⟨yb, ya, yn, yc, yb', ya', yn', yc', rfl⟩ := hyo
  refine Fn0.of Tryz.func49 (by kernel_rfl) (by kernel_rfl) ?_
  refine G.callO _ _ (by kernel_rfl) Tryz.call94 (clonePoly0 hL0 hF0'.ok4 (by intro e; rw [e] at hel0; simp at hel0; omega) (by omega)) ?_
  intro v1 u1 m1 l1 hA1 hf1
  rw [mt_or]
  obtain ⟨g, cap, rfl⟩ := hA1.ptr (by intro e; rw [e] at hel0; simp at hel0; omega)
  have hcap1 := hA1.cap
  rw [hel0] at hA1 hcap1 ⊢
  generalize hN : p.length = n at *
  have szt : ∀ {q : Rat} {t : Nat}, Sz q (bd S T t) → t ≤ 20 → Sz q 1000000000000 := fun h1 h2 => h1.mono (bd_le h2 hST)
  refine G.loop (ι := Nat × List Value × List Rat × Nat) (fun i => [(0, .v (.slice a n c)), (3, .p 0 0), (5, .v (.int .i64 0)), (6, .v (.slice (some ⟨g, 0, none⟩) n cap)), (16, .v (.int .i64 (n : Int))), (17, .v (.int .i64 (i.1 : Int)))])
    (fun _ => [(0, ⟨90, [.v (.bool yb), .v (.slice ya yn yc), .v (.bool yb'), .v (.slice ya' yn' yc')]⟩)])
    (fun i u' m' => i.1 ≤ n ∧ i.2.2.1.length = n ∧ shiftGo x (n - i.1) i.1 i.2.2.1 = shiftL x p ∧ i.2.2.2 ≤ 4 * i.1 ∧ SzL i.2.2.1 (bd S T i.2.2.2) ∧ AtP FracP u' i.2.1 i.2.2.1 ∧ ArrAt PH.mt m' (.slice (some ⟨g, 0, none⟩) n cap) 90 4 i.2.1)
    (fun i => n - i.1) (0, es0, p, 0) (by kernel_rfl) (fun _ => by kernel_rfl) ⟨by kernel_rfl, by kernel_rfl, by kernel_rfl⟩
    ⟨Nat.zero_le _, hN, by dsimp only; rw [Nat.sub_zero, ← hN]; rfl, Nat.le_refl _, hs, hF0'.mono (fun _ _ h => h.mono l1), hA1⟩ ?_
  rintro J ⟨i, es, cur, t⟩ hJ u2 m2 l2 ⟨hi, hcl, hgo, ht, hsz, hF, hA⟩
  simp only at hi hcl hgo ht hsz hF hA hJ
  by_cases hlt : i < n
  · refine G.lssT (i : Int) (n : Int) (by kernel_rfl) (by omega) ?_
    refine G.sub (n : Int) 2 ((n : Int) - 2) (by kernel_rfl) rfl (by omega) (by omega) ?_
    refine G.loop (ι := Int × Nat × List Value × List Rat × Nat) (fun j => [(0, .v (.slice a n c)), (3, .p 0 0), (5, .v (.int .i64 0)), (6, .v (.slice (some ⟨g, 0, none⟩) n cap)), (7, .v (.int .i64 (i : Int))), (8, .v (.int .i64 j.1)), (16, .v (.int .i64 (n : Int))), (17, .v (.int .i64 (i : Int)))])
      (fun _ => [(0, ⟨90, [.v (.bool yb), .v (.slice ya yn yc), .v (.bool yb'), .v (.slice ya' yn' yc')]⟩)])
      (fun j u' m' => j.1 = (j.2.1 : Int) - 1 ∧ j.2.1 ≤ n - 1 ∧ j.2.2.2.1.length = n ∧ horGo x i j.2.1 j.2.2.2.1 = horGo x i (n - 1) cur ∧ j.2.2.2.2 ≤ 4 * i + (n - 1 - j.2.1) ∧ SzL j.2.2.2.1 (bd S T j.2.2.2.2) ∧ AtP FracP u' j.2.2.1 j.2.2.2.1 ∧ ArrAt PH.mt m' (.slice (some ⟨g, 0, none⟩) n cap) 90 4 j.2.2.1)
      (fun j => j.2.1) ((n : Int) - 2, n - 1, es, cur, t) (by kernel_rfl) (fun _ => by kernel_rfl) ⟨by kernel_rfl, by kernel_rfl, by kernel_rfl⟩
      ⟨by dsimp only; omega, Nat.le_refl _, hcl, rfl, by dsimp only; omega, hsz, hF, hA⟩ ?_
    rintro J2 ⟨zk, kk, es2, cur2, t2⟩ hJ2 u3 m3 l3 ⟨hzk, hkk, hcl2, hgo2, ht2, hsz2, hF2, hA2⟩
    simp only at hzk hkk hcl2 hgo2 ht2 hsz2 hF2 hA2 hJ2
    have hel2 := hF2.1
    by_cases hge : (i : Int) ≤ zk
    · obtain ⟨k, rfl⟩ : ∃ k : Nat, zk = (k : Int) := ⟨zk.toNat, by omega⟩
      obtain rfl : kk = k + 1 := by omega
      refine G.geqT (k : Int) (i : Int) (by kernel_rfl) (by omega) ?_
      have hk : k < cur2.length := by omega
      have hk1 : k + 1 < cur2.length := by omega
      obtain ⟨e1, he1, hf1'⟩ := hF2.at hk
      obtain ⟨x1, x2, x3, x4, x5, x6, x7, x8, rfl⟩ := hf1'.opn
      obtain ⟨e2, he2, hf2'⟩ := hF2.at hk1
      obtain ⟨z1, z2, z3, z4, z5, z6, z7, z8, rfl⟩ := hf2'.opn
      refine G.addr g 0 n cap k 4 (by kernel_rfl) (by omega) ?_
      refine G.loadM (some 4) g (0 + k * 4) _ (by kernel_rfl) (by kernel_rfl) (hA2.el he1) ?_
      refine G.add (k : Int) 1 ((k + 1 : Nat) : Int) (by kernel_rfl) (by omega) (by omega) (by omega) ?_
      refine G.addr g 0 n cap (k + 1) 4 (by kernel_rfl) (by omega) ?_
      refine G.loadM (some 4) g (0 + (k + 1) * 4) _ (by kernel_rfl) (by kernel_rfl) (hA2.el he2) ?_
      have hl : PH.le u u3 := l1.trans (l2.trans l3)
      have hsa : Sz cur2[k] (bd S T t2) := hsz2 _ (List.getElem_mem hk)
      have hsb : Sz cur2[k + 1] (bd S T t2) := hsz2 _ (List.getElem_mem hk1)
      have hsm := sz_mul2 hx hsb
      have hsn := sz_add2 hsa hsm
      refine G.call0 _ _ (by kernel_rfl) Tryz.call93 (fracMul0 (hy.mono hl) hf2' (hx.mono (by omega)) (szt hsb (by omega))) ?_
      intro v4 u4 l4 k4
      obtain ⟨y1, y2, y3, y4, y5, y6, y7, y8, rfl⟩ := k4.opn
      refine G.call0 _ _ (by kernel_rfl) Tryz.call59 (fracAdd0 (hf1'.mono l4) k4 (szt hsa (by omega)) (hsm.mono (by have := bd_le (t := t2 + 1) (S := S) (T := T) (by omega) hST; simp only [bd] at this; omega))) ?_
      intro v5 u5 l5 k5
      obtain ⟨w1, w2, w3, w4, w5, w6, w7, w8, rfl⟩ := k5.opn
      refine G.addr g 0 n cap k 4 (by kernel_rfl) (by omega) ?_
      refine G.storeA 4 PH.mt es2 g n cap k (.agg #[.bool w1, .slice w2 w3 w4, .bool w5, .slice w6 w7 w8]) (by kernel_rfl) hA2 (by omega) rfl rfl ?_
      intro m6 hA6
      refine G.sub (k : Int) 1 ((k : Int) - 1) (by kernel_rfl) rfl (by omega) (by omega) ?_
      refine G.back (by kernel_rfl) (hJ2 ((k : Int) - 1, k, es2.set k (.agg #[.bool w1, .slice w2 w3 w4, .bool w5, .slice w6 w7 w8]), cur2.set k (cur2[k] + x * cur2[k + 1]), t2 + 1) _ _ _ ⟨by kernel_rfl, by kernel_rfl, by kernel_rfl⟩ ((l3.trans l4).trans l5) ⟨rfl, by dsimp only; omega, by simp [hcl2], ?_, by dsimp only; omega, ?_, ?_, hA6⟩ (by dsimp only; omega))
      · dsimp only
        rw [← hgo2, horGo, if_neg (by omega), gR_at hk, gR_at hk1]
      · exact (hsz2.mono (bd_mono S T t2)).set hsn
      · exact (hF2.mono (fun _ _ h => h.mono (l4.trans l5))).set k k5
    · refine G.geqF zk (i : Int) (by kernel_rfl) (by omega) ?_
      have hend : horGo x i kk cur2 = cur2 := by
        cases kk with
        | zero => rfl
        | succ k => rw [horGo, if_pos (by omega)]
      refine G.add (i : Int) 1 ((i + 1 : Nat) : Int) (by kernel_rfl) (by omega) (by omega) (by omega) ?_
      refine G.back (by kernel_rfl) (hJ (i + 1, es2, cur2, t2) _ _ _ ⟨by kernel_rfl, by kernel_rfl, by kernel_rfl⟩ (l2.trans l3) ⟨by dsimp only; omega, hcl2, ?_, by dsimp only; omega, hsz2, hF2, hA2⟩ (by dsimp only; omega))
      dsimp only
      rw [← hgo, show n - i = (n - (i + 1)) + 1 by omega, shiftGo, hcl, ← hgo2, hend]
  · obtain rfl : i = n := by omega
    refine G.lssF (i : Int) (i : Int) (by kernel_rfl) (by omega) ?_
    rw [Nat.sub_self, shiftGo] at hgo
    have hlz : zer cur < cur.length := by rw [hgo, shiftL_length, hN]; exact hz
    have hel := hF.1
    have hvl := var_le cur
    refine G.loop (ι := Nat) (fun e => [(0, .v (.slice a i c)), (5, .v (.int .i64 (e : Int))), (6, .v (.slice (some ⟨g, 0, none⟩) i cap))]) (fun _ => [])
      (fun e u' m' => e ≤ zer cur ∧ m' = m2) (fun e => zer cur - e) 0 (by kernel_rfl) (fun _ => by kernel_rfl) ⟨by kernel_rfl, by kernel_rfl, by kernel_rfl⟩ ⟨Nat.zero_le _, rfl⟩ ?_
    rintro J2 e hJ2 u3 m3 l3 ⟨he, rfl⟩
    have hec : e < cur.length := by omega
    obtain ⟨e1, he1, hf1'⟩ := hF.at hec
    obtain ⟨x1, x2, x3, x4, x5, x6, x7, x8, rfl⟩ := hf1'.opn
    rw [← gR_at hec] at hf1'
    refine G.addr g 0 i cap e 4 (by kernel_rfl) (by omega) ?_
    refine G.loadM (some 4) g (0 + e * 4) _ (by kernel_rfl) (by kernel_rfl) (hA.el he1) ?_
    have hb20 := bd_le (t := t) (S := S) (T := T) (by omega) hST
    refine G.call0 _ _ (by kernel_rfl) Tryz.call95 (fracSignS (hf1'.mono l3) (hsz.at hec) (by omega)) ?_
    rintro v4 u4 l4 rfl
    by_cases hlt2 : e < zer cur
    · refine G.eqlT (sg (gR cur e)) 0 (by kernel_rfl) (sg_eq_zero.2 (zer_lt hlt2)) ?_
      refine G.add (e : Int) 1 ((e + 1 : Nat) : Int) (by kernel_rfl) (by omega) (by omega) (by omega) ?_
      exact G.back (by kernel_rfl) (hJ2 (e + 1) _ _ _ ⟨by kernel_rfl, by kernel_rfl, by kernel_rfl⟩ (l3.trans l4) ⟨by omega, rfl⟩ (by omega))
    · obtain rfl : e = zer cur := by omega
      refine G.eqlF (sg (gR cur (zer cur))) 0 (by kernel_rfl) (fun h => zer_at hlz (sg_eq_zero.1 h)) ?_
      generalize hE : zer cur = E at *
      refine G.addr g 0 i cap E 4 (by kernel_rfl) (by omega) ?_
      refine G.loadM (some 4) g (0 + E * 4) _ (by kernel_rfl) (by kernel_rfl) (hA.el he1) ?_
      refine G.call0 _ _ (by kernel_rfl) Tryz.call95 (fracSignS (hf1'.mono (l3.trans l4)) (hsz.at hec) (by omega)) ?_
      rintro v5 u5 l5 rfl
      refine G.sliceFrom g 0 i cap E 4 (by kernel_rfl) (by omega) (by omega) ?_
      have hvs := var_start (l := cur) (by rw [hE]; exact hec)
      rw [hE] at hvs
      have hsa := sg_abs (gR cur E)
      refine G.loop (ι := Nat × Nat × Int) (fun j => [(0, .v (.slice a i c)), (5, .v (.int .i64 (E : Int))), (9, .v (.int .i64 (j.2.1 : Int))), (10, .v (.int .i64 j.2.2)), (59, .v (.slice (some ⟨g, 0 + E * 4, none⟩) (i - E) (cap - E))), (60, .v (.int .i64 ((i - E : Nat) : Int))), (61, .v (.int .i64 (j.1 : Int)))]) (fun _ => [])
        (fun j u' m' => j.1 ≤ i - E ∧ j.2.1 ≤ j.1 ∧ j.2.1 + chg j.2.2 (cur.drop (E + j.1)) = var cur ∧ -1 ≤ j.2.2 ∧ j.2.2 ≤ 1 ∧ m' = m3) (fun j => i - E - j.1) (0, 0, sg (gR cur E)) (by kernel_rfl) (fun _ => by kernel_rfl) ⟨by kernel_rfl, by kernel_rfl, by kernel_rfl⟩
        ⟨Nat.zero_le _, Nat.le_refl _, by dsimp only; rw [Nat.add_zero, Nat.zero_add]; exact hvs, hsa.1, hsa.2, rfl⟩ ?_
      rintro J3 ⟨j, gr, s⟩ hJ3 u6 m6 l6 ⟨hj, hgr, hch, hs1, hs2, rfl⟩
      simp only at hj hgr hch hs1 hs2 hJ3
      by_cases hltj : j < i - E
      · refine G.lssT (j : Int) ((i - E : Nat) : Int) (by kernel_rfl) (by omega) ?_
        have hjc : E + j < cur.length := by omega
        obtain ⟨e7, he7, hf7⟩ := hF.at hjc
        obtain ⟨w1, w2, w3, w4, w5, w6, w7, w8, rfl⟩ := hf7.opn
        rw [← gR_at hjc] at hf7
        have hEl := hA.el he7
        rw [show 0 + (E + j) * 4 = 0 + E * 4 + j * 4 by omega] at hEl
        refine G.addr g (0 + E * 4) (i - E) (cap - E) j 4 (by kernel_rfl) hltj ?_
        refine G.loadM (some 4) g (0 + E * 4 + j * 4) _ (by kernel_rfl) (by kernel_rfl) hEl ?_
        refine G.call0 _ _ (by kernel_rfl) Tryz.call95 (fracSignS (hf7.mono (((l3.trans l4).trans l5).trans l6)) (hsz.at hjc) (by omega)) ?_
        rintro v8 u8 l8 rfl
        refine G.neg s (-s) (by kernel_rfl) rfl (by omega) (by omega) ?_
        have hdr : cur.drop (E + j) = gR cur (E + j) :: cur.drop (E + j + 1) := by rw [gR_at hjc]; exact List.drop_eq_getElem_cons hjc
        rw [hdr, chg] at hch
        by_cases hq : sg (gR cur (E + j)) = -s
        · rw [if_pos hq] at hch
          refine G.eqlT (sg (gR cur (E + j))) (-s) (by kernel_rfl) hq ?_
          refine G.add (gr : Int) 1 ((gr + 1 : Nat) : Int) (by kernel_rfl) (by omega) (by omega) (by omega) ?_
          refine G.neg s (-s) (by kernel_rfl) rfl (by omega) (by omega) ?_
          refine G.add (j : Int) 1 ((j + 1 : Nat) : Int) (by kernel_rfl) (by omega) (by omega) (by omega) ?_
          exact G.back (by kernel_rfl) (hJ3 (j + 1, gr + 1, -s) _ _ _ ⟨by kernel_rfl, by kernel_rfl, by kernel_rfl⟩ (l6.trans l8) ⟨by dsimp only; omega, by dsimp only; omega, by dsimp only; rw [show E + (j + 1) = E + j + 1 by omega]; omega, by dsimp only; omega, by dsimp only; omega, rfl⟩ (by dsimp only; omega))
        · rw [if_neg hq] at hch
          refine G.eqlF (sg (gR cur (E + j))) (-s) (by kernel_rfl) hq ?_
          refine G.add (j : Int) 1 ((j + 1 : Nat) : Int) (by kernel_rfl) (by omega) (by omega) (by omega) ?_
          exact G.back (by kernel_rfl) (hJ3 (j + 1, gr, s) _ _ _ ⟨by kernel_rfl, by kernel_rfl, by kernel_rfl⟩ (l6.trans l8) ⟨by dsimp only; omega, by dsimp only; omega, by dsimp only; rw [show E + (j + 1) = E + j + 1 by omega]; omega, hs1, hs2, rfl⟩ (by dsimp only; omega))
      · obtain rfl : j = i - E := by omega
        refine G.lssF ((i - E : Nat) : Int) ((i - E : Nat) : Int) (by kernel_rfl) (by omega) ?_
        rw [List.drop_of_length_le (by omega), chg] at hch
        refine G.sub (i : Int) 1 ((i : Int) - 1) (by kernel_rfl) rfl (by omega) (by omega) ?_
        refine G.sub ((i : Int) - 1) (E : Int) ((i : Int) - 1 - (E : Int)) (by kernel_rfl) rfl (by omega) (by omega) ?_
        refine G.sub ((i : Int) - 1 - (E : Int)) (gr : Int) ((i : Int) - 1 - (E : Int) - (gr : Int)) (by kernel_rfl) rfl (by omega) (by omega) ?_
        refine G.drop PH.mt (by kernel_rfl) (PH.mt_le _) ?_
        refine G.ret (.tuple #[.int .i64 ((i : Int) - 1 - (E : Int) - (gr : Int)), .int .i64 (E : Int)]) (by kernel_rfl) ⟨rfl, ?_⟩
        unfold lessL equalL
        rw [← hgo, hE, hN, ← hch]
        simp
end Go.Proofs.YtldokelpolbnnaaGreatDoor
end
section
set_option linter.unusedSectionVars false
set_option linter.unusedVariables false
namespace Go.Proofs.YtldokelpolbnnaaGreatDoor
open Go.RowKit
structure F4 where
  b : Bool
  a : Option Addr
  n : Nat
  c : Nat
  b' : Bool
  a' : Option Addr
  n' : Nat
  c' : Nat
def fv (f : F4) : Value := .agg #[.bool f.b, .slice f.a f.n f.c, .bool f.b', .slice f.a' f.n' f.c']
def fc (f : F4) : List SV := [.v (.bool f.b), .v (.slice f.a f.n f.c), .v (.bool f.b'), .v (.slice f.a' f.n' f.c')]
theorem FracP.opF {u : PH} {v : Value} {q : Rat} (h : FracP u v q) : ∃ f, v = fv f := by
  obtain ⟨b, a, n, c, b', a', n', c', rfl⟩ := h.opn; exact ⟨⟨b, a, n, c, b', a', n', c'⟩, rfl⟩
theorem fv_ok (f : F4) : ElsOK 4 [fv f] := by
  intro x hx
  simp at hx; subst hx
  exact ⟨rfl, fun y hy => by simp [fv, Value.cells] at hy; rcases hy with rfl | rfl | rfl | rfl <;> rfl⟩
def rowArr (r : Value × List Value) : Arr := ⟨r.1, 90, 4, r.2⟩
def outArr (v : Value) (es : List Value) : Arr := ⟨v, 90, 4, es⟩
def matArr (g n : Nat) (rows : List (Value × List Value)) : Arr := ⟨.slice (some ⟨g, 0, none⟩) n n, 81, 1, rows.map (·.1)⟩
theorem Bag.perm {l l' : List Arr} (h : l.Perm l') : ∀ {m : PH}, Bag m l → Bag m l' := by
  induction h with
  | nil => exact fun h => h
  | cons x _ ih => exact fun ⟨m0, h1, h2⟩ => ⟨m0, h1, ih h2⟩
  | swap x y l =>
    rintro m ⟨m1, hy, m0, hx, hl⟩
    obtain ⟨m2, k1, k2, _⟩ := At.swap hy hx
    exact ⟨m2, k2, m0, k1, hl⟩
  | trans _ _ h1 h2 => exact fun h => h2 (h1 h)
section bag
variable {o : Arr} {rows : List (Value × List Value)} {rest : List Arr} {i j n : Nat} {r r' : Value × List Value} {x x' : Arr}
theorem get_row (h : rows[i]? = some r) : (o :: (rows.map rowArr ++ rest))[i + 1]? = some (rowArr r) := by
  have hlt : i < rows.length := by
    rcases Nat.lt_or_ge i rows.length with h' | h'
    · exact h'
    · rw [List.getElem?_eq_none h'] at h; cases h
  rw [List.getElem?_cons_succ, List.getElem?_append_left (by simpa using hlt), List.getElem?_map, h]; rfl
theorem set_row (h : i < rows.length) : (o :: (rows.map rowArr ++ rest)).set (i + 1) (rowArr r') = o :: ((rows.set i r').map rowArr ++ rest) := by
  rw [List.set_cons_succ, List.set_append_left _ _ (by simpa using h), List.map_set]
theorem get_next (hn : rows.length = n) (h : rest[j]? = some x) : (o :: (rows.map rowArr ++ rest))[n + 1 + j]? = some x := by
  rw [show n + 1 + j = (n + j) + 1 by omega, List.getElem?_cons_succ, List.getElem?_append_right (by simp; omega)]
  simp [hn, h]
theorem set_next (hn : rows.length = n) : (o :: (rows.map rowArr ++ rest)).set (n + 1 + j) x' = o :: (rows.map rowArr ++ rest.set j x') := by
  rw [show n + 1 + j = (n + j) + 1 by omega, List.set_cons_succ, List.set_append_right _ _ (by simp; omega)]
  simp [hn]
end bag
def MAt (u : PH) (rows : List (Value × List Value)) (M : List (List Rat)) : Prop := rows.length = M.length ∧ ∀ (i : Nat) (r : Value × List Value), rows[i]? = some r → AtP FracP u r.2 (gM M i)
theorem MAt.mono {u u' : PH} {rows : List (Value × List Value)} {M : List (List Rat)} (h : MAt u rows M) (hl : PH.le u u') : MAt u' rows M := ⟨h.1, fun i r hr => (h.2 i r hr).mono (fun _ _ k => k.mono hl)⟩
theorem gM_set {M : List (List Rat)} {i j : Nat} {q : List Rat} (hi : i < M.length) : gM (M.set i q) j = if i = j then q else gM M j := by
  unfold gM
  simp only [List.getD_eq_getElem?_getD, List.getElem?_set]
  split
  · rename_i e; subst e; simp
  · rfl
theorem MAt.set {u : PH} {rows : List (Value × List Value)} {M : List (List Rat)} {i : Nat} {r : Value × List Value} {q : List Rat} (h : MAt u rows M) (hi : i < rows.length) (hr : AtP FracP u r.2 q) : MAt u (rows.set i r) (M.set i q) := by
  refine ⟨by simp [h.1], fun j r' hj => ?_⟩
  rw [gM_set (by rw [← h.1]; exact hi)]
  rw [List.getElem?_set] at hj
  by_cases e : i = j
  · subst e
    rw [if_pos rfl, if_pos hi] at hj
    simp only [Option.some.injEq] at hj
    rw [if_pos rfl, ← hj]; exact hr
  · rw [if_neg e] at hj ⊢
    exact h.2 j r' hj
def SqM (n : Nat) (M : List (List Rat)) : Prop := M.length = n ∧ ∀ i, i < n → (gM M i).length = n
def SzM (M : List (List Rat)) (k : Nat) : Prop := ∀ i j, i < M.length → j < (gM M i).length → Sz (gR (gM M i) j) k
theorem SzM.mono {M : List (List Rat)} {j k : Nat} (h : SzM M j) (hjk : j ≤ k) : SzM M k := fun a b h1 h2 => (h a b h1 h2).mono hjk
theorem SqM.set {n : Nat} {M : List (List Rat)} {i : Nat} {q : List Rat} (h : SqM n M) (hi : i < n) (hq : q.length = n) : SqM n (M.set i q) :=
  ⟨by simp [h.1], fun j hj => by rw [gM_set (by rw [h.1]; exact hi)]; split; · exact hq
                                 · exact h.2 j hj⟩
theorem gR_set {l : List Rat} {i j : Nat} {q : Rat} (hi : i < l.length) : gR (l.set i q) j = if i = j then q else gR l j := by
  unfold gR
  simp only [List.getD_eq_getElem?_getD, List.getElem?_set]
  split
  · rename_i e; subst e; simp
  · rfl
theorem gM_at {M : List (List Rat)} {i : Nat} (h : i < M.length) : gM M i = M[i] := by simp [gM, h]
def cb (T : Nat) : Nat → Nat
  | 0 => 1
  | k + 1 => 32 * cb T k + 16 * T + 42
theorem cb_le {T k : Nat} (hk : k ≤ 4) (hT : T ≤ 400) : cb T k ≤ 1000000000 := by
  have h0 : cb T 0 = 1 := rfl
  have h1 : cb T 1 = 32 * cb T 0 + 16 * T + 42 := rfl
  have h2 : cb T 2 = 32 * cb T 1 + 16 * T + 42 := rfl
  have h3 : cb T 3 = 32 * cb T 2 + 16 * T + 42 := rfl
  have h4 : cb T 4 = 32 * cb T 3 + 16 * T + 42 := rfl
  match k, hk with
  | 0, _ => omega
  | 1, _ => omega
  | 2, _ => omega
  | 3, _ => omega
  | 4, _ => omega
theorem sz_div {q r : Rat} {j k : Nat} (h : Sz q j) (h' : Sz r k) (hr : r ≠ 0) : Sz (q / r) (j + k) := by
  rw [← div_new q r]
  have a1 := nl_mul q.num.natAbs r.den
  have a3 := nl_mul q.den r.num.natAbs
  have b1 := h.1; have b2 := h.2; have b3 := h'.1; have b4 := h'.2
  have hn : r.num ≠ 0 := fun e => hr (Rat.num_eq_zero.1 e)
  have hd : (q.den : Int) ≠ 0 := by have := q.den_pos; omega
  have c1 : nl (q.num * (r.den : Int)).natAbs ≤ j + k := by rw [Int.natAbs_mul]; simp only [Int.natAbs_natCast]; omega
  have c2 : nl ((q.den : Int) * r.num).natAbs ≤ j + k := by rw [Int.natAbs_mul]; simp only [Int.natAbs_natCast]; omega
  rcases Int.lt_or_lt_of_ne (Int.mul_ne_zero hd hn) with hlt | hgt
  · have e : Rat.divInt (q.num * (r.den : Int)) ((q.den : Int) * r.num) = Rat.divInt (-(q.num * (r.den : Int))) (-((q.den : Int) * r.num)) := (Rat.neg_divInt_neg _ _).symm
    rw [e]
    exact sz_divInt (by omega) (by rw [Int.natAbs_neg]; exact c1) (by rw [Int.natAbs_neg]; exact c2)
  · exact sz_divInt hgt c1 c2
end Go.Proofs.YtldokelpolbnnaaGreatDoor
end
section
set_option linter.unusedSectionVars false
set_option linter.unusedVariables false
namespace Go.Proofs.YtldokelpolbnnaaGreatDoor
open Go.RowKit
def zF : Value := .agg #[.bool false, .slice none 0 0, .bool false, .slice none 0 0]
theorem matArr_at {g n : Nat} {rows : List (Value × List Value)} {m0 m : PH} : (matArr g n rows).At m0 m = ArrAt m0 m (.slice (some ⟨g, 0, none⟩) n n) 81 1 (rows.map (·.1)) := rfl
theorem outArr_at {v : Value} {es : List Value} {m0 m : PH} : (outArr v es).At m0 m = ArrAt m0 m v 90 4 es := rfl
theorem rowArr_at {r : Value × List Value} {m0 m : PH} : (rowArr r).At m0 m = ArrAt m0 m r.1 90 4 r.2 := rfl
def nilRow : Value × List Value := (.slice none 0 0, [])
theorem Bag.nils {l : List Arr} {m : PH} (h : Bag m l) : ∀ n, Bag m ((List.replicate n nilRow).map rowArr ++ l)
  | 0 => h
  | n + 1 => ⟨m, ArrAt.nil _ _ _, Bag.nils h n⟩
theorem MAt.at {u : PH} {rows : List (Value × List Value)} {M : List (List Rat)} {i : Nat} (h : MAt u rows M) (hi : i < rows.length) : ∃ r, rows[i]? = some r ∧ AtP FracP u r.2 (gM M i) := ⟨rows[i], List.getElem?_eq_getElem hi, h.2 i _ (List.getElem?_eq_getElem hi)⟩
theorem FMatP.cell {u : PH} {a : Option Addr} {n c i j : Nat} {A : List (List Rat)} (h : FMatP u (.slice a n c) A) (hi : i < A.length) (hj : j < (gM A i).length) :
    ∃ b off b' off' c' f, a = some ⟨b, off, none⟩ ∧ ElP u b (off + i * 1) (.slice (some ⟨b', off', none⟩) (gM A i).length c') ∧ ElP u b' (off' + j * 4) (fv f) ∧ FracP u (fv f) (gR (gM A i) j) := by
  obtain ⟨b, off, e, rfl, h1, h2⟩ := LP.at h (List.getElem?_eq_getElem hi)
  rw [← gM_at hi] at h2
  obtain ⟨a', c', rfl⟩ := h2.opn
  obtain ⟨b', off', b1, a1, n1, c1, b2, a2, n2, c2, rfl, k1, k2⟩ := h2.at hj
  exact ⟨b, off, b', off', c', ⟨b1, a1, n1, c1, b2, a2, n2, c2⟩, rfl, h1, k1, k2⟩
structure St where
  k : Nat
  g : Nat
  rows : List (Value × List Value)
  M : List (List Rat)
  es : List Value
  qs : List Rat
  gb : List Arr
structure StOK (u m : PH) (n T gO cO : Nat) (A : List (List Rat)) (s : St) : Prop where
  hk : s.k ≤ n
  ql : s.qs.length = s.k + 1
  at' : AtP FracP u s.es s.qs
  mat : MAt u s.rows s.M
  sq : SqM n s.M
  szM : SzM s.M (cb T s.k)
  szq : SzL s.qs (cb T s.k)
  go : charGo A n (n - s.k) (s.k + 1) s.M s.qs = charL A
  bag : Bag m (matArr s.g n s.rows :: (s.rows.map rowArr ++ outArr (.slice (some ⟨gO, 0, none⟩) (n + 1) cO) (List.replicate (n - s.k) zF ++ s.es) :: s.gb))
theorem gR_rep (n j : Nat) : gR (List.replicate n 0) j = 0 := by
  unfold gR
  rw [List.getD_eq_getElem?_getD, List.getElem?_replicate]
  split <;> rfl
theorem gM_rep {n i : Nat} (r : List Rat) (h : i < n) : gM (List.replicate n r) i = r := by
  unfold gM
  rw [List.getD_eq_getElem?_getD, List.getElem?_replicate, if_pos h]; rfl
theorem sz_zero : Sz 0 1 := sz_one (z := 0) (by decide)
theorem AtP.rep {u : PH} {e : Value} {q : Rat} (h : FracP u e q) (n : Nat) : AtP FracP u (List.replicate n e) (List.replicate n q) := by
  refine ⟨by simp, fun j x hj => ?_⟩
  rw [List.getElem?_replicate] at hj ⊢
  split at hj
  · rename_i hlt
    simp only [Option.some.injEq] at hj; subst hj
    exact ⟨e, by rw [if_pos hlt], h⟩
  · cases hj
section steps
variable {fn : Func} {Post : Spec} {u m : PH}
end steps
set_option maxHeartbeats 8000000 in
theorem char0 {u : PH} {v : Value} {A : List (List Rat)} {T : Nat} (h : MatP u v (matT A)) (hs : Sq A) (h4 : A.length ≤ 4) (hT : T ≤ 400) (hA : ∀ r ∈ A, SzL r T) :
    Fn0 Tryz.prog 48 [v] u fun v' u' => FracsP u' v' (charL A) ∧ SzL (charL A) (cb T A.length) := by
  obtain ⟨a, c, rfl⟩ := h.opn
  rw [matT_length] at h ⊢
  have hrl : ∀ r ∈ A, r.length = A.length := hs.row
  refine Fn0.of Tryz.func48 (by kernel_rfl) (by kernel_rfl) ?_
  refine G.loop (ι := Nat × List Value × (Option Addr × Nat × Nat)) (fun i => [(3, .v (.int .i64 (A.length : Int))), (4, .v (.slice i.2.2.1 i.2.2.2.1 i.2.2.2.2)), (20, .v (.slice a A.length c)), (21, .v (.int .i64 (A.length : Int))), (22, .v (.int .i64 (i.1 : Int)))]) (fun _ => [])
    (fun i u' m' => i.1 ≤ A.length ∧ AtP FracsP u' i.2.1 (A.take i.1) ∧ ArrAt PH.mt m' (.slice i.2.2.1 i.2.2.2.1 i.2.2.2.2) 81 1 i.2.1)
    (fun i => A.length - i.1) (0, [], (none, 0, 0)) (by kernel_rfl) (fun _ => by kernel_rfl) ⟨by kernel_rfl, by kernel_rfl, by kernel_rfl⟩ ⟨Nat.zero_le _, AtP.nil, ArrAt.nil _ _ _⟩ ?_
  rintro J ⟨k, vals, ⟨a2, n2, c2⟩⟩ hJ u2 m2 l2 ⟨hk, hF, hA2⟩
  simp only at hk hF hA2 hJ
  have hel := hF.1
  rw [List.length_take] at hel
  by_cases hlt : k < A.length
  · refine G.lssT (k : Int) (A.length : Int) (by kernel_rfl) (by omega) ?_
    have htk : A[k]? = some A[k] := List.getElem?_eq_getElem hlt
    have hmem := List.getElem_mem hlt
    obtain ⟨ba, oa, a3, c3, rfl, e3, s3⟩ := (h.mono l2).row (matT_at htk)
    rw [List.length_map] at e3 s3
    refine G.addr ba oa A.length c k 1 (by kernel_rfl) (by omega) ?_
    refine G.loadU none ba (oa + k * 1) _ (by kernel_rfl) (by kernel_rfl) e3 ?_
    refine G.call0 _ _ (by kernel_rfl) Tryz.call91 (fracList0 s3 (hs.tx _ hmem) (by rw [hrl _ hmem]; omega)) ?_
    intro v4 u4 l4 k4
    obtain ⟨a4, c4, rfl⟩ := k4.lp.opn
    refine G.buildU 81 1 24 (.slice none 0 0) [.slice a4 A[k].length c4] (by kernel_rfl) (slice_ok _ _ _) rfl (by omega) (by simp) (by simp) ?_
    intro g6 u6 l6 e6
    refine G.append 81 1 24 (.slice none 0 0) PH.mt vals [.slice a4 A[k].length c4] (.slice a2 n2 c2) g6 0 1 1 (by kernel_rfl) rfl rfl (by omega) hA2 e6 (slice_ok _ _ _) rfl (by omega) (by omega) (by omega) ?_
    intro v7 m7 hA7
    obtain ⟨a7, c7, rfl⟩ := hA7.shape
    refine G.add (k : Int) 1 ((k + 1 : Nat) : Int) (by kernel_rfl) (by omega) (by omega) (by omega) ?_
    refine G.back (by kernel_rfl) (hJ (k + 1, vals ++ [Value.slice a4 A[k].length c4], (a7, (vals ++ [Value.slice a4 A[k].length c4]).length, c7)) _ _ _ ⟨by kernel_rfl, by kernel_rfl, by kernel_rfl⟩ ((l2.trans l4).trans l6) ⟨by dsimp only; omega, ?_, hA7⟩ (by dsimp only; omega))
    dsimp only
    rw [List.take_add_one, htk]
    exact (hF.mono (fun _ _ h => h.mono (l4.trans l6))).snoc (k4.mono l6)
  · obtain rfl : k = A.length := by omega
    rw [List.take_length] at hF
    refine G.lssF (A.length : Int) (A.length : Int) (by kernel_rfl) (by omega) ?_
    refine G.give PH.mt vals _ (by kernel_rfl) hA2 (fun _ => .inl rfl) ?_
    intro u3 l3 hL3
    have hlv : vals.length = A.length := by rw [hF.1]
    obtain ⟨_, _, e0⟩ := hL3.opn
    simp only [Value.slice.injEq] at e0
    obtain ⟨rfl, rfl, rfl⟩ := e0
    rw [hlv] at hL3 ⊢
    have hFM : FMatP u3 (.slice a2 A.length c2) A := ⟨vals, hL3, hF.mono (fun _ _ h => h.mono l3)⟩
    clear hL3 hF hA2 hJ hlv hel
    generalize hN : A.length = n at *
    refine G.add (n : Int) 1 ((n + 1 : Nat) : Int) (by kernel_rfl) (by omega) (by omega) (by omega) ?_
    refine G.make 90 4 64 zF (n + 1) (by kernel_rfl) rfl rfl (by omega) (by omega) (by omega) ?_
    rintro v4 m4 hO4 ⟨aO, rfl⟩
    obtain ⟨gO, rfl, _⟩ := hO4.some'
    refine G.call0 _ _ (by kernel_rfl) Tryz.call60 (fracOf0 (z := 1) (by omega) (by omega)) ?_
    intro v5 u5 l5 k5
    obtain ⟨f5, rfl⟩ := k5.opF
    refine G.addr gO 0 (n + 1) (n + 1) n 4 (by kernel_rfl) (by omega) ?_
    refine G.storeA 4 PH.mt _ gO (n + 1) (n + 1) n (fv f5) (by kernel_rfl) hO4 (by simp) rfl rfl ?_
    intro m6 hO6
    have hset : (List.replicate (n + 1) zF).set n (fv f5) = List.replicate n zF ++ [fv f5] := by
      rw [List.replicate_succ', List.set_append_right _ _ (by simp)]
      simp
    rw [hset] at hO6
    refine G.make 81 1 24 (.slice none 0 0) n (by kernel_rfl) rfl rfl (by omega) (by omega) (by omega) ?_
    rintro v7 m7 hM7 ⟨aM, rfl⟩
    obtain ⟨gM', rfl, _⟩ := hM7.some'
    have hb0 : Bag m6 [outArr (.slice (some ⟨gO, 0, none⟩) (n + 1) (n + 1)) (List.replicate n zF ++ [fv f5])] := ⟨PH.mt, hO6, trivial⟩
    have hb1 : Bag m7 (matArr gM' n (List.replicate n nilRow) :: ((List.replicate n nilRow).map rowArr ++ [outArr (.slice (some ⟨gO, 0, none⟩) (n + 1) (n + 1)) (List.replicate n zF ++ [fv f5])])) := by
      refine (hb0.nils n).add (x := matArr gM' n (List.replicate n nilRow)) ?_
      rw [matArr_at, List.map_replicate]; exact hM7
    clear hO4 hO6 hM7 hb0
    refine G.loop (ι := Nat × List (Value × List Value)) (fun i => [(3, .v (.int .i64 (n : Int))), (4, .v (.slice a2 n c2)), (7, .v (.slice (some ⟨gO, 0, none⟩) (n + 1) (n + 1))), (8, .v (.slice (some ⟨gM', 0, none⟩) n n)), (42, .v (.int .i64 (n : Int))), (43, .v (.int .i64 (i.1 : Int)))]) (fun _ => [])
      (fun i u' m' => i.1 ≤ n ∧ i.2.length = n ∧ (∀ j r, i.2[j]? = some r → if j < i.1 then AtP FracP u' r.2 (List.replicate n 0) else r = nilRow) ∧ Bag m' (matArr gM' n i.2 :: (i.2.map rowArr ++ [outArr (.slice (some ⟨gO, 0, none⟩) (n + 1) (n + 1)) (List.replicate n zF ++ [fv f5])])))
      (fun i => n - i.1) (0, List.replicate n nilRow) (by kernel_rfl) (fun _ => by kernel_rfl) ⟨by kernel_rfl, by kernel_rfl, by kernel_rfl⟩
      ⟨Nat.zero_le _, by simp, fun j r hj => by rw [if_neg (Nat.not_lt_zero _)]; exact List.eq_of_mem_replicate (List.mem_of_getElem? hj), hb1⟩ ?_
    rintro J2 ⟨i, rows⟩ hJ2 u8 m8 l8 ⟨hi, hrn, hrow, hbag⟩
    simp only at hi hrn hrow hbag hJ2
    by_cases hlt2 : i < n
    · refine G.lssT (i : Int) (n : Int) (by kernel_rfl) (by omega) ?_
      refine G.call0 _ _ (by kernel_rfl) Tryz.call60 (fracOf0 (z := 0) (by omega) (by omega)) ?_
      intro v9 u9 l9 k9
      obtain ⟨f9, rfl⟩ := k9.opF
      refine G.buildU 90 4 64 zF [fv f9] (by kernel_rfl) (fv_ok f9) rfl (by omega) (by simp) (by simp) ?_
      intro g10 u10 l10 e10
      have hLP : ListP u10 (.slice (some ⟨g10, 0, none⟩) 1 1) 4 [fv f9] := ⟨_, 1, rfl, Nat.le_refl _, fun j e hj => ⟨g10, 0, rfl, e10 j e hj⟩⟩
      refine G.callO _ _ (by kernel_rfl) Tryz.call92 (repeatF0 (n := n) hLP (fv_ok f9) (by omega)) ?_
      intro v11 u11 mc11 l11 hA11 hf11
      have hA11' := hA11.join hf11
      obtain ⟨a11, c11, rfl⟩ := hA11.shape
      rw [List.length_replicate] at hA11' ⊢
      have hri : rows[i]? = some nilRow := by
        have hx := hrow i rows[i] (List.getElem?_eq_getElem (by omega))
        rw [if_neg (by omega)] at hx
        rw [List.getElem?_eq_getElem (by omega), hx]
      obtain ⟨m0, hx0, hput⟩ := hbag.focus (i + 1) (get_row hri)
      have hm0 : m0 = m8 := by
        rcases hx0.2 with ⟨_, _, e⟩ | ⟨_, _, _, _, _, e, _⟩
        · exact e.symm
        · simp [rowArr, nilRow] at e
      subst hm0
      have hbag2 := hput (rowArr (.slice a11 n c11, List.replicate n (fv f9))) _ hA11'
      rw [set_row (by omega)] at hbag2
      obtain ⟨m0', hx1, hput1⟩ := hbag2.focus 0 rfl
      rw [matArr_at] at hx1
      refine G.addr gM' 0 n n i 1 (by kernel_rfl) hlt2 ?_
      refine G.storeA 1 m0' _ gM' n n i (.slice a11 n c11) (by kernel_rfl) hx1 (by simp [hrn, hlt2]) rfl rfl ?_
      intro m12 hx12
      have hbag3 := hput1 (matArr gM' n (rows.set i (.slice a11 n c11, List.replicate n (fv f9)))) m12 (by
        rw [matArr_at, List.map_set]; exact hx12)
      refine G.add (i : Int) 1 ((i + 1 : Nat) : Int) (by kernel_rfl) (by omega) (by omega) (by omega) ?_
      refine G.back (by kernel_rfl) (hJ2 (i + 1, rows.set i (.slice a11 n c11, List.replicate n (fv f9))) _ _ _ ⟨by kernel_rfl, by kernel_rfl, by kernel_rfl⟩ (((l8.trans l9).trans l10).trans l11) ⟨by dsimp only; omega, by dsimp only; simp [hrn], ?_, hbag3⟩ (by dsimp only; omega))
      intro j r hj
      dsimp only at hj ⊢
      rw [List.getElem?_set] at hj
      by_cases e : i = j
      · subst e
        rw [if_pos rfl, if_pos (by omega)] at hj
        simp only [Option.some.injEq] at hj
        rw [if_pos (by omega), ← hj]
        exact AtP.rep (k9.mono (l10.trans l11)) n
      · rw [if_neg e] at hj
        have := hrow j r hj
        by_cases hji : j < i
        · rw [if_pos hji] at this
          rw [if_pos (by omega)]
          exact this.mono (fun _ _ h => h.mono ((l9.trans l10).trans l11))
        · rw [if_neg hji] at this
          rw [if_neg (by omega)]; exact this
    · obtain rfl : i = n := by omega
      refine G.lssF (i : Int) (i : Int) (by kernel_rfl) (by omega) ?_
      have hMat : MAt u8 rows (List.replicate i (List.replicate i 0)) := ⟨by simp [hrn], fun j r hj => by
        have hjl : j < i := by
          rcases Nat.lt_or_ge j rows.length with h' | h'
          · omega
          · rw [List.getElem?_eq_none h'] at hj; cases hj
        rw [gM_rep _ hjl]
        have := hrow j r hj
        rw [if_pos hjl] at this; exact this⟩
      have hA' : ∀ i j, i < A.length → j < (gM A i).length → Sz (gR (gM A i) j) T := fun i j h1 h2 => by
        have hm : gM A i ∈ A := by rw [gM_at h1]; exact List.getElem_mem h1
        exact (hA _ hm).at h2
      have hAl : ∀ i, i < A.length → (gM A i).length = A.length := fun i h1 => by rw [gM_at h1, hN]; exact hrl _ (List.getElem_mem h1)
      have one : ((1 : Int) : Rat) = 1 := by decide
      have zero : ((0 : Int) : Rat) = 0 := by decide
      rw [one] at k5
      have hinit : StOK u8 m8 i T gO (i + 1) A ⟨0, gM', rows, List.replicate i (List.replicate i 0), [fv f5], [1], []⟩ := by
        refine ⟨Nat.zero_le _, rfl, ?_, hMat, ⟨by simp, fun j hj => by rw [gM_rep _ hj]; simp⟩, fun a b h1 h2 => ?_, fun q hq => ?_, ?_, hbag⟩
        · exact AtP.snoc (es := []) (xs := []) AtP.nil (k5.mono l8)
        · simp only [List.length_replicate] at h1
          rw [gM_rep _ h1, gR_rep]; exact sz_zero
        · simp at hq; subst hq; exact sz_one (z := 1) (by decide)
        · simp only [Nat.sub_zero, Nat.zero_add]
          unfold charL; rw [hN]
      refine G.loop (ι := St) (fun s => [(3, .v (.int .i64 (i : Int))), (4, .v (.slice a2 i c2)), (7, .v (.slice (some ⟨gO, 0, none⟩) (i + 1) (i + 1))), (8, .v (.slice (some ⟨s.g, 0, none⟩) i i)), (10, .v (.int .i64 ((s.k + 1 : Nat) : Int)))]) (fun _ => [])
        (fun s u' m' => StOK u' m' i T gO (i + 1) A s) (fun s => i - s.k) ⟨0, gM', rows, List.replicate i (List.replicate i 0), [fv f5], [1], []⟩ (by kernel_rfl) (fun _ => by kernel_rfl) ⟨by kernel_rfl, by kernel_rfl, by kernel_rfl⟩ hinit ?_
      clear hinit hMat hbag hrow hrn hJ2 hb1
      generalize i = n at *
      rintro J3 ⟨k, gl, lrows, M, es, qs, gb⟩ hJ3 u9 m9 l9 ⟨hkn, hql, hat, hmat, hsq, hszM, hszq, hgo, hbag⟩
      simp only at hkn hql hat hmat hsq hszM hszq hgo hbag hJ3
      have hell := hat.1
      by_cases hk1 : k < n
      · refine G.leqT ((k + 1 : Nat) : Int) (n : Int) (by kernel_rfl) (by omega) ?_
        obtain ⟨B, hB⟩ : ∃ B, B = cb T k := ⟨_, rfl⟩
        have hBle : B ≤ 1000000000 := by rw [hB]; exact cb_le (by omega) hT
        have hB1 : cb T (k + 1) = 32 * B + 16 * T + 42 := by rw [hB]; rfl
        rw [← hB] at hszM hszq
        obtain ⟨eo, heo, hfo⟩ := hat.at (j := 0) (by omega)
        rw [← gR_at (by omega)] at hfo
        obtain ⟨fo, rfl⟩ := hfo.opF
        have hsc : Sz (gR qs 0) B := hszq.at (by omega)
        refine G.loop (ι := Nat × List (Value × List Value) × List (List Rat)) (fun j => [(3, .v (.int .i64 (n : Int))), (4, .v (.slice a2 n c2)), (7, .v (.slice (some ⟨gO, 0, none⟩) (n + 1) (n + 1))), (8, .v (.slice (some ⟨gl, 0, none⟩) n n)), (10, .v (.int .i64 ((k + 1 : Nat) : Int))), (60, .v (.int .i64 (n : Int))), (61, .v (.int .i64 (j.1 : Int)))]) (fun _ => [])
          (fun j u' m' => j.1 ≤ n ∧ MAt u' j.2.1 j.2.2 ∧ SqM n j.2.2 ∧ SzM j.2.2 (2 * B + 1) ∧ (∀ a b, j.1 ≤ a → a < n → b < n → Sz (gR (gM j.2.2 a) b) B) ∧ diagGo (gR qs 0) (n - j.1) j.1 j.2.2 = diagGo (gR qs 0) n 0 M ∧ Bag m' (matArr gl n j.2.1 :: (j.2.1.map rowArr ++ outArr (.slice (some ⟨gO, 0, none⟩) (n + 1) (n + 1)) (List.replicate (n - k) zF ++ es) :: gb)))
          (fun j => n - j.1) (0, lrows, M) (by kernel_rfl) (fun _ => by kernel_rfl) ⟨by kernel_rfl, by kernel_rfl, by kernel_rfl⟩
          ⟨Nat.zero_le _, hmat, hsq, hszM.mono (by omega), fun a b _ h1 h2 => hszM a b (by rw [hsq.1]; exact h1) (by rw [hsq.2 a h1]; exact h2), rfl, hbag⟩ ?_
        rintro J4 ⟨i, rows, M'⟩ hJ4 u10 m10 l10 ⟨hi, hmat', hsq', hsz', hszd, hdg, hbag'⟩
        simp only at hi hmat' hsq' hsz' hszd hdg hbag' hJ4
        have hrn : rows.length = n := by rw [hmat'.1, hsq'.1]
        by_cases hlti : i < n
        · refine G.lssT (i : Int) (n : Int) (by kernel_rfl) (by omega) ?_
          obtain ⟨⟨rv, res⟩, hri, hra⟩ := hmat'.at (i := i) (by omega)
          have hrl' : res.length = n := by have := hra.1; rw [hsq'.2 i hlti] at this; exact this
          obtain ⟨gr, cr, e⟩ := hbag'.ptr (i + 1) (get_row hri) (by intro e; simp only [rowArr] at e; rw [e] at hrl'; simp at hrl'; omega)
          simp only [rowArr] at e
          rw [hrl'] at e
          subst e
          obtain ⟨e1, he1, hf1⟩ := hra.at (j := i) (by rw [hsq'.2 i hlti]; exact hlti)
          rw [← gR_at (by rw [hsq'.2 i hlti]; exact hlti)] at hf1
          obtain ⟨f1, rfl⟩ := hf1.opF
          have hro : ElP m10 gl (0 + i * 1) (.slice (some ⟨gr, 0, none⟩) n cr) := hbag'.el 0 (x := matArr gl n rows) rfl rfl (by show (rows.map (·.1))[i]? = _; rw [List.getElem?_map, hri]; rfl)
          have hre : ElP m10 gr (0 + i * 4) (fv f1) := hbag'.el (i + 1) (get_row hri) rfl he1
          have hoe : ElP m10 gO (0 + (n - k) * 4) (fv fo) := hbag'.el (n + 1 + 0) (get_next hrn rfl) rfl (by show (List.replicate (n - k) zF ++ es)[n - k]? = _; rw [List.getElem?_append_right (by simp)]; simpa using heo)
          refine G.addr gl 0 n n i 1 (by kernel_rfl) hlti ?_
          refine G.loadM none gl (0 + i * 1) _ (by kernel_rfl) (by kernel_rfl) hro ?_
          refine G.addr gl 0 n n i 1 (by kernel_rfl) hlti ?_
          refine G.loadM none gl (0 + i * 1) _ (by kernel_rfl) (by kernel_rfl) hro ?_
          refine G.addr gr 0 n cr i 4 (by kernel_rfl) hlti ?_
          refine G.loadM (some 4) gr (0 + i * 4) _ (by kernel_rfl) (by kernel_rfl) hre ?_
          refine G.sub (n : Int) ((k + 1 : Nat) : Int) ((n - (k + 1) : Nat) : Int) (by kernel_rfl) (by omega) (by omega) (by omega) ?_
          refine G.add ((n - (k + 1) : Nat) : Int) 1 ((n - k : Nat) : Int) (by kernel_rfl) (by omega) (by omega) (by omega) ?_
          refine G.addr gO 0 (n + 1) (n + 1) (n - k) 4 (by kernel_rfl) (by omega) ?_
          refine G.loadM (some 4) gO (0 + (n - k) * 4) _ (by kernel_rfl) (by kernel_rfl) hoe ?_
          have hs1 := hszd i i (Nat.le_refl _) hlti hlti
          refine G.call0 _ _ (by kernel_rfl) Tryz.call59 (fracAdd0 hf1 (hfo.mono l10) (hs1.mono (by omega)) (hsc.mono (by omega))) ?_
          intro v11 u11 l11 k11
          obtain ⟨f11, rfl⟩ := k11.opF
          have hs11 : Sz (gR (gM M' i) i + gR qs 0) (2 * B + 1) := (sz_add2 hs1 hsc).mono (by omega)
          obtain ⟨m0, hx, hput⟩ := hbag'.focus (i + 1) (get_row hri)
          rw [rowArr_at] at hx
          refine G.addr gr 0 n cr i 4 (by kernel_rfl) hlti ?_
          refine G.storeA 4 m0 res gr n cr i (fv f11) (by kernel_rfl) hx (by omega) rfl rfl ?_
          intro m12 hx12
          have hbag2 := hput (rowArr (.slice (some ⟨gr, 0, none⟩) n cr, res.set i (fv f11))) m12 hx12
          rw [set_row (by omega)] at hbag2
          have houter : (rows.set i (.slice (some ⟨gr, 0, none⟩) n cr, res.set i (fv f11))).map (·.1) = rows.map (·.1) := by
            rw [List.map_set]
            apply List.ext_getElem?
            intro j
            rw [List.getElem?_set]
            split
            · rename_i e; subst e
              rw [if_pos (by simp; omega), List.getElem?_map, hri]; rfl
            · rfl
          refine G.add (i : Int) 1 ((i + 1 : Nat) : Int) (by kernel_rfl) (by omega) (by omega) (by omega) ?_
          have hgs : ∀ a b, gR (gM (M'.set i ((gM M' i).set i (gR (gM M' i) i + gR qs 0))) a) b = if i = a then (if i = b then gR (gM M' i) i + gR qs 0 else gR (gM M' i) b) else gR (gM M' a) b := by
            intro a b
            rw [gM_set (by rw [hsq'.1]; exact hlti)]
            by_cases e : i = a
            · rw [if_pos e, if_pos e, gR_set (by rw [hsq'.2 i hlti]; exact hlti)]
            · rw [if_neg e, if_neg e]
          have hsqn := hsq'.set (i := i) hlti (q := (gM M' i).set i (gR (gM M' i) i + gR qs 0)) (by rw [List.length_set, hsq'.2 i hlti])
          refine G.back (by kernel_rfl) (hJ4 (i + 1, rows.set i (.slice (some ⟨gr, 0, none⟩) n cr, res.set i (fv f11)), M'.set i ((gM M' i).set i (gR (gM M' i) i + gR qs 0))) _ _ _ ⟨by kernel_rfl, by kernel_rfl, by kernel_rfl⟩ (l10.trans l11) ⟨by dsimp only; omega, ?_, hsqn, ?_, ?_, ?_, ?_⟩ (by dsimp only; omega))
          · exact (hmat'.mono l11).set (by omega) ((hra.mono (fun _ _ h => h.mono l11)).set i k11)
          · intro a b h1 h2
            dsimp only at h1 h2 ⊢
            rw [hsqn.1] at h1
            rw [hsqn.2 a h1] at h2
            rw [hgs]
            split
            · split
              · exact hs11
              · exact hsz' i b (by rw [hsq'.1]; exact hlti) (by rw [hsq'.2 i hlti]; exact h2)
            · exact hsz' a b (by rw [hsq'.1]; exact h1) (by rw [hsq'.2 a h1]; exact h2)
          · intro a b h1 h2 h3
            dsimp only at h1 ⊢
            rw [hgs, if_neg (by omega)]
            exact hszd a b (by omega) h2 h3
          · dsimp only
            rw [← hdg, show n - i = (n - (i + 1)) + 1 by omega, diagGo]
          · dsimp only
            have : matArr gl n (rows.set i (.slice (some ⟨gr, 0, none⟩) n cr, res.set i (fv f11))) = matArr gl n rows := by unfold matArr; rw [houter]
            rw [this]; exact hbag2
        · obtain rfl : i = n := by omega
          refine G.lssF (i : Int) (i : Int) (by kernel_rfl) (by omega) ?_
          rw [Nat.sub_self, diagGo] at hdg
          rw [hdg] at hmat' hsq' hsz'
          clear hszd hJ4 hszM hmat hsq hdg
          generalize hM1 : diagGo (gR qs 0) i 0 M = M1 at *
          generalize i = n at *
          have hrn : rows.length = n := by rw [hmat'.1, hsq'.1]
          obtain ⟨NB, hNB⟩ : ∃ NB, NB = 8 * B + 4 * T + 9 := ⟨_, rfl⟩
          obtain ⟨W, hW⟩ : ∃ W, W = T + (2 * B + 1) + 1 := ⟨_, rfl⟩
          have hbagN := hbag'.nils n
          refine G.make 81 1 24 (.slice none 0 0) n (by kernel_rfl) rfl rfl (by omega) (by omega) (by omega) ?_
          rintro v11 m11 hM11 ⟨aN, rfl⟩
          obtain ⟨gN, rfl, _⟩ := hM11.some'
          have hbag2 : Bag m11 (matArr gN n (List.replicate n nilRow) :: ((List.replicate n nilRow).map rowArr ++ (matArr gl n rows :: (rows.map rowArr ++ outArr (.slice (some ⟨gO, 0, none⟩) (n + 1) (n + 1)) (List.replicate (n - k) zF ++ es) :: gb)))) := by
            refine hbagN.add (x := matArr gN n (List.replicate n nilRow)) ?_
            rw [matArr_at, List.map_replicate]; exact hM11
          clear hbagN hM11 hbag'
          refine G.call0 _ _ (by kernel_rfl) Tryz.call60 (fracOf0 (z := 0) (by omega) (by omega)) ?_
          intro v12 u12 l12 k12
          rw [zero] at k12
          obtain ⟨f12, rfl⟩ := k12.opF
          refine G.loop (ι := Nat × List (Value × List Value) × List (List Rat) × F4 × Rat) (fun j => [(3, .v (.int .i64 (n : Int))), (4, .v (.slice a2 n c2)), (7, .v (.slice (some ⟨gO, 0, none⟩) (n + 1) (n + 1))), (8, .v (.slice (some ⟨gl, 0, none⟩) n n)), (10, .v (.int .i64 ((k + 1 : Nat) : Int))), (12, .v (.slice (some ⟨gN, 0, none⟩) n n)), (13, .p 25001 0), (90, .v (.int .i64 (n : Int))), (91, .v (.int .i64 (j.1 : Int)))])
            (fun j => [(25001, ⟨90, fc j.2.2.2.1⟩)])
            (fun j u' m' => j.1 ≤ n ∧ j.2.1.length = n ∧ j.2.2.1.length = j.1 ∧ (∀ x r, j.2.1[x]? = some r → if x < j.1 then AtP FracP u' r.2 (gM j.2.2.1 x) else r = nilRow) ∧ nextGo A M1 n (n - j.1) j.1 j.2.2.1 j.2.2.2.2 = nextGo A M1 n n 0 [] 0 ∧ (∀ x, x < j.1 → (gM j.2.2.1 x).length = n) ∧ SzM j.2.2.1 NB ∧ Sz j.2.2.2.2 (1 + j.1 * (NB + 1)) ∧ FracP u' (fv j.2.2.2.1) j.2.2.2.2 ∧
              Bag m' (matArr gN n j.2.1 :: (j.2.1.map rowArr ++ (matArr gl n rows :: (rows.map rowArr ++ outArr (.slice (some ⟨gO, 0, none⟩) (n + 1) (n + 1)) (List.replicate (n - k) zF ++ es) :: gb)))))
            (fun j => n - j.1) (0, List.replicate n nilRow, [], f12, 0) (by kernel_rfl) (fun _ => by kernel_rfl) ⟨by kernel_rfl, by kernel_rfl, by kernel_rfl⟩
            ⟨Nat.zero_le _, by simp, rfl, fun x r hx => by rw [if_neg (Nat.not_lt_zero _)]; exact List.eq_of_mem_replicate (List.mem_of_getElem? hx), rfl, fun x hx => absurd hx (Nat.not_lt_zero _), fun a b h1 _ => absurd h1 (Nat.not_lt_zero _), sz_zero.mono (by omega), k12, hbag2⟩ ?_
          clear hbag2
          rintro J5 ⟨i, nrows, N, tr, trq⟩ hJ5 u13 m13 l13 ⟨hi, hnn, hNl, hnrow, hnx, hNr, hszN, hstr, htr, hbag3⟩
          simp only at hi hnn hNl hnrow hnx hNr hszN hstr htr hbag3 hJ5
          have hlu : PH.le u10 u13 := l12.trans l13
          by_cases hlti : i < n
          · refine G.lssT (i : Int) (n : Int) (by kernel_rfl) (by omega) ?_
            have hnil : nrows[i]? = some nilRow := by
              have hx := hnrow i nrows[i] (List.getElem?_eq_getElem (by omega))
              rw [if_neg (by omega)] at hx
              rw [List.getElem?_eq_getElem (by omega), hx]
            have hset0 : nrows.set i nilRow = nrows := by
              apply List.ext_getElem?
              intro x
              rw [List.getElem?_set]
              split
              · rename_i e; subst e; rw [if_pos (by omega), hnil]
              · rfl
            refine G.loop (ι := Nat × (Option Addr × Nat × Nat) × List Value × List Rat) (fun j => [(3, .v (.int .i64 (n : Int))), (4, .v (.slice a2 n c2)), (7, .v (.slice (some ⟨gO, 0, none⟩) (n + 1) (n + 1))), (8, .v (.slice (some ⟨gl, 0, none⟩) n n)), (10, .v (.int .i64 ((k + 1 : Nat) : Int))), (12, .v (.slice (some ⟨gN, 0, none⟩) n n)), (13, .p 25001 0), (90, .v (.int .i64 (n : Int))), (91, .v (.int .i64 (i : Int))), (14, .v (.int .i64 (i : Int))), (94, .v (.int .i64 (n : Int))), (95, .v (.int .i64 (j.1 : Int)))])
              (fun j => [(25001, ⟨90, fc tr⟩)])
              (fun j u' m' => j.1 ≤ n ∧ j.2.2.2.length = j.1 ∧ AtP FracP u' j.2.2.1 j.2.2.2 ∧ rowGo (gM A i) M1 n (n - j.1) j.1 j.2.2.2 = rowGo (gM A i) M1 n n 0 [] ∧ SzL j.2.2.2 NB ∧
                Bag m' (matArr gN n (nrows.set i (.slice j.2.1.1 j.2.1.2.1 j.2.1.2.2, j.2.2.1)) :: ((nrows.set i (.slice j.2.1.1 j.2.1.2.1 j.2.1.2.2, j.2.2.1)).map rowArr ++ (matArr gl n rows :: (rows.map rowArr ++ outArr (.slice (some ⟨gO, 0, none⟩) (n + 1) (n + 1)) (List.replicate (n - k) zF ++ es) :: gb)))))
              (fun j => n - j.1) (0, (none, 0, 0), [], []) (by kernel_rfl) (fun _ => by kernel_rfl) ⟨by kernel_rfl, by kernel_rfl, by kernel_rfl⟩
              ⟨Nat.zero_le _, rfl, AtP.nil, rfl, fun q hq => absurd hq (by simp), by dsimp only; rw [show ((Value.slice none 0 0, ([] : List Value)) : Value × List Value) = nilRow from rfl, hset0]; exact hbag3⟩ ?_
            rintro J6 ⟨j, ⟨ca, cn, cc⟩, ces, L⟩ hJ6 u14 m14 l14 ⟨hj, hLl, hcat, hrg, hszL, hbag4⟩
            simp only at hj hLl hcat hrg hszL hbag4 hJ6
            have hcl : ces.length = j := by rw [hcat.1, hLl]
            have hri : (nrows.set i (.slice ca cn cc, ces))[i]? = some (.slice ca cn cc, ces) := by rw [List.getElem?_set, if_pos rfl, if_pos (by omega)]
            have hcn : cn = ces.length := by
              obtain ⟨_, _, e⟩ := hbag4.shape (i + 1) (get_row hri)
              simp only [rowArr, Value.slice.injEq] at e
              exact e.2.1
            have hnl' : (nrows.set i (.slice ca cn cc, ces)).length = n := by simp [hnn]
            have hno : ElP m14 gN (0 + i * 1) (.slice ca cn cc) := hbag4.el 0 (x := matArr gN n _) rfl rfl (by show (List.map _ _)[i]? = _; rw [List.getElem?_map, hri]; rfl)
            by_cases hltj : j < n
            · refine G.lssT (j : Int) (n : Int) (by kernel_rfl) (by omega) ?_
              refine G.call0 _ _ (by kernel_rfl) Tryz.call60 (fracOf0 (z := 0) (by omega) (by omega)) ?_
              intro v15 u15 l15 k15
              rw [zero] at k15
              obtain ⟨f15, rfl⟩ := k15.opF
              refine G.loop (ι := Nat × F4 × Rat) (fun x => [(3, .v (.int .i64 (n : Int))), (4, .v (.slice a2 n c2)), (7, .v (.slice (some ⟨gO, 0, none⟩) (n + 1) (n + 1))), (8, .v (.slice (some ⟨gl, 0, none⟩) n n)), (10, .v (.int .i64 ((k + 1 : Nat) : Int))), (12, .v (.slice (some ⟨gN, 0, none⟩) n n)), (13, .p 25001 0), (90, .v (.int .i64 (n : Int))), (91, .v (.int .i64 (i : Int))), (14, .v (.int .i64 (i : Int))), (94, .v (.int .i64 (n : Int))), (95, .v (.int .i64 (j : Int))), (15, .v (.int .i64 (j : Int))), (16, .p 32001 0), (99, .v (.int .i64 (n : Int))), (100, .v (.int .i64 (x.1 : Int)))])
                (fun x => [(25001, ⟨90, fc tr⟩), (32001, ⟨90, fc x.2.1⟩)])
                (fun x u' m' => x.1 ≤ n ∧ sumGo (gM A i) M1 j (n - x.1) x.1 x.2.2 = sumGo (gM A i) M1 j n 0 0 ∧ Sz x.2.2 (1 + x.1 * W) ∧ FracP u' (fv x.2.1) x.2.2 ∧ m' = m14)
                (fun x => n - x.1) (0, f15, 0) (by kernel_rfl) (fun _ => by kernel_rfl) ⟨by kernel_rfl, by kernel_rfl, by kernel_rfl⟩
                ⟨Nat.zero_le _, rfl, sz_zero.mono (by omega), k15, rfl⟩ ?_
              rintro J7 ⟨x, sm, smq⟩ hJ7 u16 m16 l16 ⟨hx, hsg, hszs, hsm, rfl⟩
              simp only at hx hsg hszs hsm hJ7
              have hxW : x * W ≤ 4 * W := Nat.mul_le_mul_right _ (by omega)
              by_cases hltx : x < n
              · refine G.lssT (x : Int) (n : Int) (by kernel_rfl) (by omega) ?_
                have hl3 : PH.le u3 u16 := l5.trans (l8.trans (l9.trans (l10.trans (l12.trans (l13.trans (l14.trans (l15.trans l16)))))))
                obtain ⟨b1, o1, b2, o2, c3, fa, rfl, ea1, ea2, fa2⟩ := (hFM.mono hl3).cell (i := i) (j := x) (by omega) (by rw [hAl i (by omega)]; omega)
                rw [hAl i (by omega), hN] at ea1
                refine G.addr b1 o1 n c2 i 1 (by kernel_rfl) hlti ?_
                refine G.loadU none b1 (o1 + i * 1) _ (by kernel_rfl) (by kernel_rfl) ea1 ?_
                refine G.addr b2 o2 n c3 x 4 (by kernel_rfl) hltx ?_
                refine G.loadU (some 4) b2 (o2 + x * 4) _ (by kernel_rfl) (by kernel_rfl) ea2 ?_
                obtain ⟨⟨rv, res⟩, hrx, hra⟩ := hmat'.at (i := x) (by omega)
                have hrl' : res.length = n := by have := hra.1; rw [hsq'.2 x hltx] at this; exact this
                obtain ⟨gr, cr, e⟩ := hbag4.ptr (n + 1 + (x + 1)) (get_next hnl' (get_row hrx)) (by intro e; simp only [rowArr] at e; rw [e] at hrl'; simp at hrl'; omega)
                simp only [rowArr] at e
                rw [hrl'] at e
                subst e
                obtain ⟨e1, he1, hf1⟩ := hra.at (j := j) (by rw [hsq'.2 x hltx]; exact hltj)
                rw [← gR_at (by rw [hsq'.2 x hltx]; exact hltj)] at hf1
                obtain ⟨f1, rfl⟩ := hf1.opF
                have hro : ElP m16 gl (0 + x * 1) (.slice (some ⟨gr, 0, none⟩) n cr) := hbag4.el (n + 1 + 0) (x := matArr gl n rows) (get_next hnl' rfl) rfl (by show (rows.map (·.1))[x]? = _; rw [List.getElem?_map, hrx]; rfl)
                have hre : ElP m16 gr (0 + j * 4) (fv f1) := hbag4.el (n + 1 + (x + 1)) (get_next hnl' (get_row hrx)) rfl he1
                refine G.addr gl 0 n n x 1 (by kernel_rfl) hltx ?_
                refine G.loadM none gl (0 + x * 1) _ (by kernel_rfl) (by kernel_rfl) hro ?_
                refine G.addr gr 0 n cr j 4 (by kernel_rfl) hltj ?_
                refine G.loadM (some 4) gr (0 + j * 4) _ (by kernel_rfl) (by kernel_rfl) hre ?_
                have hsA := hA' i x (by omega) (by rw [hAl i (by omega)]; omega)
                have hsM := hsz' x j (by rw [hsq'.1]; exact hltx) (by rw [hsq'.2 x hltx]; exact hltj)
                have hsP := sz_mul2 hsA hsM
                refine G.call0 _ _ (by kernel_rfl) Tryz.call93 (fracMul0 fa2 (hf1.mono (l12.trans (l13.trans (l14.trans (l15.trans l16))))) (hsA.mono (by omega)) (hsM.mono (by omega))) ?_
                intro v17 u17 l17 k17
                obtain ⟨f17, rfl⟩ := k17.opF
                refine G.call0 _ _ (by kernel_rfl) Tryz.call59 (fracAdd0 (hsm.mono l17) k17 (hszs.mono (by omega)) (hsP.mono (by omega))) ?_
                intro v18 u18 l18 k18
                obtain ⟨f18, rfl⟩ := k18.opF
                refine G.add (x : Int) 1 ((x + 1 : Nat) : Int) (by kernel_rfl) (by omega) (by omega) (by omega) ?_
                refine G.back (by kernel_rfl) (hJ7 (x + 1, f18, smq + gR (gM A i) x * gR (gM M1 x) j) _ _ _ ⟨by kernel_rfl, by kernel_rfl, by kernel_rfl⟩ ((l16.trans l17).trans l18) ⟨by dsimp only; omega, ?_, ?_, k18, rfl⟩ (by dsimp only; omega))
                · dsimp only
                  rw [← hsg, show n - x = (n - (x + 1)) + 1 by omega, sumGo]
                · dsimp only
                  refine (sz_add2 hszs hsP).mono ?_
                  have e := Nat.succ_mul x W
                  simp only [Nat.succ_eq_add_one] at e
                  omega
              · obtain rfl : x = n := by omega
                refine G.lssF (x : Int) (x : Int) (by kernel_rfl) (by omega) ?_
                rw [Nat.sub_self, sumGo] at hsg
                have hszf : Sz smq NB := hszs.mono (by omega)
                rw [hsg] at hszf hsm
                subst hcn
                refine G.addr gN 0 x x i 1 (by kernel_rfl) hlti ?_
                refine G.loadM none gN (0 + i * 1) _ (by kernel_rfl) (by kernel_rfl) hno ?_
                refine G.buildU 90 4 64 zF [fv sm] (by kernel_rfl) (fv_ok sm) rfl (by omega) (by simp) (by simp) ?_
                intro g17 u17 l17 e17
                obtain ⟨m0, hx0, hput⟩ := hbag4.focus (i + 1) (get_row hri)
                rw [rowArr_at] at hx0
                refine G.append 90 4 64 zF m0 ces [fv sm] (.slice ca ces.length cc) g17 0 1 1 (by kernel_rfl) rfl rfl (by omega) hx0 e17 (fv_ok sm) rfl (by omega) (by omega) (by omega) ?_
                intro v18 m18 hx18
                obtain ⟨a18, c18, rfl⟩ := hx18.shape
                have hbag5 := hput (rowArr (.slice a18 (ces ++ [fv sm]).length c18, ces ++ [fv sm])) m18 hx18
                rw [set_row (by omega)] at hbag5
                obtain ⟨m0', hx1, hput1⟩ := hbag5.focus 0 rfl
                rw [matArr_at] at hx1
                refine G.addr gN 0 x x i 1 (by kernel_rfl) hlti ?_
                refine G.storeA 1 m0' _ gN x x i (.slice a18 (ces ++ [fv sm]).length c18) (by kernel_rfl) hx1 (by simp [hnn, hlti]) rfl rfl ?_
                intro m19 hx19
                have hbag6 := hput1 (matArr gN x ((nrows.set i (.slice ca ces.length cc, ces)).set i (.slice a18 (ces ++ [fv sm]).length c18, ces ++ [fv sm]))) m19 (by
                  rw [matArr_at, List.map_set]; exact hx19)
                rw [List.set_cons_zero, List.set_set] at hbag6
                refine G.add (j : Int) 1 ((j + 1 : Nat) : Int) (by kernel_rfl) (by omega) (by omega) (by omega) ?_
                refine G.back (by kernel_rfl) (hJ6 (j + 1, (a18, (ces ++ [fv sm]).length, c18), ces ++ [fv sm], L ++ [sumGo (gM A i) M1 j x 0 0]) _ _ _ ⟨by kernel_rfl, by kernel_rfl, by kernel_rfl⟩ (((l14.trans l15).trans l16).trans l17) ⟨by dsimp only; omega, by dsimp only; simp [hLl], ?_, ?_, ?_, hbag6⟩ (by dsimp only; omega))
                · exact (hcat.mono (fun _ _ h => h.mono ((l15.trans l16).trans l17))).snoc (hsm.mono l17)
                · dsimp only
                  rw [← hrg, show x - j = (x - (j + 1)) + 1 by omega, rowGo]
                · intro q hq
                  rcases List.mem_append.1 hq with hq | hq
                  · exact hszL q hq
                  · simp at hq; subst hq; exact hszf
            · obtain rfl : j = n := by omega
              refine G.lssF (j : Int) (j : Int) (by kernel_rfl) (by omega) ?_
              rw [Nat.sub_self, rowGo] at hrg
              subst hcn
              obtain ⟨gr, cr, e⟩ := hbag4.ptr (i + 1) (get_row hri) (by intro e; simp only [rowArr] at e; rw [e] at hcl; simp at hcl; omega)
              simp only [rowArr, Value.slice.injEq] at e
              obtain ⟨rfl, _, rfl⟩ := e
              rw [hcl] at hno
              obtain ⟨e1, he1, hf1⟩ := hcat.at (j := i) (by omega)
              rw [← gR_at (by omega)] at hf1
              obtain ⟨f1, rfl⟩ := hf1.opF
              have hre : ElP m14 gr (0 + i * 4) (fv f1) := hbag4.el (i + 1) (get_row hri) rfl he1
              refine G.addr gN 0 j j i 1 (by kernel_rfl) hlti ?_
              refine G.loadM none gN (0 + i * 1) _ (by kernel_rfl) (by kernel_rfl) hno ?_
              refine G.addr gr 0 j cc i 4 (by kernel_rfl) hlti ?_
              refine G.loadM (some 4) gr (0 + i * 4) _ (by kernel_rfl) (by kernel_rfl) hre ?_
              have hsL : Sz (gR L i) NB := hszL.at (by omega)
              have hiN : i * (NB + 1) ≤ 4 * (NB + 1) := Nat.mul_le_mul_right _ (by omega)
              refine G.call0 _ _ (by kernel_rfl) Tryz.call59 (fracAdd0 (htr.mono l14) hf1 (hstr.mono (by omega)) (hsL.mono (by omega))) ?_
              intro v15 u15 l15 k15
              obtain ⟨f15, rfl⟩ := k15.opF
              refine G.add (i : Int) 1 ((i + 1 : Nat) : Int) (by kernel_rfl) (by omega) (by omega) (by omega) ?_
              have hgN : ∀ x, gM (N ++ [L]) x = if x < i then gM N x else if x = i then L else [] := by
                intro x
                unfold gM
                rw [List.getD_eq_getElem?_getD]
                by_cases h1 : x < i
                · rw [if_pos h1, List.getElem?_append_left (by omega), List.getD_eq_getElem?_getD]
                · rw [if_neg h1, List.getElem?_append_right (by omega), hNl]
                  by_cases h2 : x = i
                  · rw [if_pos h2, h2, Nat.sub_self]; rfl
                  · rw [if_neg h2, List.getElem?_eq_none (by simp; omega)]; rfl
              refine G.back (by kernel_rfl) (hJ5 (i + 1, nrows.set i (.slice (some ⟨gr, 0, none⟩) ces.length cc, ces), N ++ [L], f15, trq + gR L i) _ _ _ ⟨by kernel_rfl, by kernel_rfl, by kernel_rfl⟩ ((l13.trans l14).trans l15) ⟨by dsimp only; omega, by dsimp only; simp [hnn], by dsimp only; simp [hNl], ?_, ?_, ?_, ?_, ?_, k15, hbag4⟩ (by dsimp only; omega))
              · intro x r hxr
                dsimp only at hxr ⊢
                rw [hgN]
                rw [List.getElem?_set] at hxr
                by_cases e : i = x
                · subst e
                  rw [if_pos rfl, if_pos (by omega)] at hxr
                  simp only [Option.some.injEq] at hxr
                  rw [if_pos (by omega), if_neg (by omega), if_pos rfl, ← hxr]
                  exact hcat.mono (fun _ _ h => h.mono l15)
                · rw [if_neg e] at hxr
                  have := hnrow x r hxr
                  by_cases hxi : x < i
                  · rw [if_pos hxi] at this
                    rw [if_pos (by omega), if_pos hxi]
                    exact this.mono (fun _ _ h => h.mono (l14.trans l15))
                  · rw [if_neg hxi] at this
                    rw [if_neg (by omega)]; exact this
              · dsimp only
                rw [← hnx, show j - i = (j - (i + 1)) + 1 by omega, nextGo, ← hrg]
              · intro x hx
                dsimp only at hx ⊢
                rw [hgN]
                by_cases hxi : x < i
                · rw [if_pos hxi]; exact hNr x hxi
                · rw [if_neg hxi, if_pos (by omega)]; exact hLl
              · intro x y h1 h2
                dsimp only at h1 h2 ⊢
                rw [hgN] at h2 ⊢
                by_cases hxi : x < i
                · rw [if_pos hxi] at h2 ⊢; exact hszN x y (by omega) h2
                · have : x = i := by simp [hNl] at h1; omega
                  rw [if_neg hxi, if_pos this] at h2 ⊢; exact hszL.at h2
              · dsimp only
                refine (sz_add2 hstr hsL).mono ?_
                have e := Nat.succ_mul i (NB + 1)
                simp only [Nat.succ_eq_add_one] at e
                omega
          · obtain rfl : i = n := by omega
            refine G.lssF (i : Int) (i : Int) (by kernel_rfl) (by omega) ?_
            rw [Nat.sub_self, nextGo] at hnx
            refine G.sub (i : Int) ((k + 1 : Nat) : Int) ((i - (k + 1) : Nat) : Int) (by kernel_rfl) (by omega) (by omega) (by omega) ?_
            refine G.neg ((k + 1 : Nat) : Int) (-((k + 1 : Nat) : Int)) (by kernel_rfl) rfl (by omega) (by omega) ?_
            refine G.call0 _ _ (by kernel_rfl) Tryz.call60 (fracOf0 (z := -((k + 1 : Nat) : Int)) (by omega) (by omega)) ?_
            intro v14 u14 l14 k14
            obtain ⟨f14, rfl⟩ := k14.opF
            have hiN : i * (NB + 1) ≤ 4 * (NB + 1) := Nat.mul_le_mul_right _ (by omega)
            have hnz : ((-((k + 1 : Nat) : Int) : Int) : Rat) ≠ 0 := by
              intro e
              have := Rat.intCast_eq_zero_iff.1 e
              omega
            have hsk : Sz ((-((k + 1 : Nat) : Int) : Int) : Rat) 1 := sz_one (by omega)
            refine G.call0 _ _ (by kernel_rfl) Tryz.call63 (fracDiv0 (htr.mono l14) k14 (hstr.mono (by omega)) (hsk.mono (by omega)) hnz) ?_
            intro v15 u15 l15 k15
            obtain ⟨f15, rfl⟩ := k15.opF
            have hsd := sz_div hstr hsk hnz
            obtain ⟨m0, hx0, hput⟩ := hbag3.focus (i + 1 + (i + 1 + 0)) (get_next hnn (get_next hrn rfl))
            rw [outArr_at] at hx0
            refine G.addr gO 0 (i + 1) (i + 1) (i - (k + 1)) 4 (by kernel_rfl) (by omega) ?_
            refine G.storeA 4 m0 _ gO (i + 1) (i + 1) (i - (k + 1)) (fv f15) (by kernel_rfl) hx0 (by simp; omega) rfl rfl ?_
            intro m16 hx16
            have hset : (List.replicate (i - k) zF ++ es).set (i - (k + 1)) (fv f15) = List.replicate (i - (k + 1)) zF ++ (fv f15 :: es) := by
              rw [show i - k = (i - (k + 1)) + 1 by omega, List.replicate_succ', List.append_assoc, List.set_append_right _ _ (by simp)]
              simp
            rw [hset] at hx16
            have hbag4 := hput (outArr (.slice (some ⟨gO, 0, none⟩) (i + 1) (i + 1)) (List.replicate (i - (k + 1)) zF ++ (fv f15 :: es))) m16 hx16
            rw [set_next hnn, set_next hrn] at hbag4
            have hperm : Bag m16 (matArr gN i nrows :: (nrows.map rowArr ++ outArr (.slice (some ⟨gO, 0, none⟩) (i + 1) (i + 1)) (List.replicate (i - (k + 1)) zF ++ (fv f15 :: es)) :: (matArr gl i rows :: (rows.map rowArr ++ gb)))) := by
              refine Bag.perm ?_ hbag4
              refine List.Perm.cons _ (List.Perm.append_left _ ?_)
              rw [List.set_cons_zero]
              exact (List.Perm.cons _ List.perm_middle).trans (List.Perm.swap _ _ _)
            refine G.add ((k + 1 : Nat) : Int) 1 ((k + 1 + 1 : Nat) : Int) (by kernel_rfl) (by omega) (by omega) (by omega) ?_
            have e2 : nextGo A M1 i i 0 [] 0 = (N, trq) := hnx.symm
            refine G.back (by kernel_rfl) (hJ3 ⟨k + 1, gN, nrows, N, fv f15 :: es, trq / ((-((k + 1 : Nat) : Int) : Int) : Rat) :: qs, matArr gl i rows :: (rows.map rowArr ++ gb)⟩ _ _ _ ⟨by kernel_rfl, by kernel_rfl, by kernel_rfl⟩ (((((l9.trans l10).trans l12).trans l13).trans l14).trans l15) ⟨by dsimp only; omega, by dsimp only; simp [hql], ?_, ?_, ?_, ?_, ?_, ?_, hperm⟩ (by dsimp only; omega))
            · refine ⟨by simp [hell], fun x q hxq => ?_⟩
              cases x with
              | zero =>
                simp only [List.getElem?_cons_zero, Option.some.injEq] at hxq
                subst hxq
                exact ⟨fv f15, rfl, k15⟩
              | succ x =>
                simp only [List.getElem?_cons_succ] at hxq
                obtain ⟨e, h1, h2⟩ := hat.2 x q hxq
                exact ⟨e, by simpa using h1, h2.mono ((((l10.trans l12).trans l13).trans l14).trans l15)⟩
            · refine ⟨by dsimp only; omega, fun x r hxr => ?_⟩
              dsimp only at hxr ⊢
              have hxl : x < i := by
                rcases Nat.lt_or_ge x nrows.length with h' | h'
                · omega
                · rw [List.getElem?_eq_none h'] at hxr; cases hxr
              have := hnrow x r hxr
              rw [if_pos hxl] at this
              exact this.mono (fun _ _ h => h.mono (l14.trans l15))
            · exact ⟨hNl, hNr⟩
            · dsimp only; rw [hB1]; exact hszN.mono (by omega)
            · intro q hq
              dsimp only
              rw [hB1]
              rcases List.mem_cons.1 hq with rfl | hq
              · exact hsd.mono (by omega)
              · exact (hszq q hq).mono (by omega)
            · dsimp only
              rw [← hgo, show i - k = (i - (k + 1)) + 1 by omega, charGo, hM1, e2]
      · obtain rfl : k = n := by omega
        refine G.leqF ((k + 1 : Nat) : Int) (k : Int) (by kernel_rfl) (by omega) ?_
        rw [Nat.sub_self, charGo] at hgo
        have hrn : lrows.length = k := by rw [hmat.1, hsq.1]
        obtain ⟨m0, hx, _⟩ := hbag.take (k + 1 + 0) (get_next hrn rfl)
        rw [outArr_at, Nat.sub_self, List.replicate_zero, List.nil_append] at hx
        refine G.give m0 es _ (by kernel_rfl) hx (fun _ => .inl rfl) ?_
        intro u10 l10 hL
        refine G.drop PH.mt (by kernel_rfl) (PH.mt_le _) ?_
        rw [hgo] at hat hszq
        exact G.ret (.slice (some ⟨gO, 0, none⟩) (k + 1) (k + 1)) (by kernel_rfl) ⟨rfl, ⟨es, hL, hat.mono (fun _ _ h => h.mono l10)⟩, hszq⟩
end Go.Proofs.YtldokelpolbnnaaGreatDoor
end
section
set_option linter.unusedSectionVars false
set_option linter.unusedVariables false
namespace Go.Proofs.YtldokelpolbnnaaGreatDoor
open Go.RowKit
theorem charGo_length (A : List (List Rat)) (n : Nat) : ∀ (f k : Nat) (M : List (List Rat)) (out : List Rat), (charGo A n f k M out).length = f + out.length
  | 0, _, _, out => by simp [charGo]
  | f + 1, k, M, out => by rw [charGo, charGo_length A n f]; simp; omega
theorem charL_length (A : List (List Rat)) : (charL A).length = A.length + 1 := by rw [charL, charGo_length]; rfl
theorem charGo_last (A : List (List Rat)) (n : Nat) : ∀ (f k : Nat) (M : List (List Rat)) (out : List Rat), out ≠ [] → (charGo A n f k M out).getLast? = out.getLast?
  | 0, _, _, out, _ => rfl
  | f + 1, k, M, out, h => by
    rw [charGo, charGo_last A n f _ _ _ (by simp)]
    cases out with
    | nil => exact absurd rfl h
    | cons x l => rw [List.getLast?_cons_cons]
theorem charL_last (A : List (List Rat)) : gR (charL A) A.length = 1 := by
  have h := charGo_last A A.length A.length 1 (List.replicate A.length (List.replicate A.length 0)) [1] (by simp)
  rw [show charGo A A.length A.length 1 (List.replicate A.length (List.replicate A.length 0)) [1] = charL A from rfl, List.getLast?_eq_getElem?, charL_length] at h
  simp at h
  simp [gR, h]
theorem hor_last (x : Rat) (i : Nat) : ∀ (k : Nat) (l : List Rat), k < l.length → gR (horGo x i k l) (l.length - 1) = gR l (l.length - 1)
  | 0, l, _ => rfl
  | k + 1, l, h => by
    unfold horGo
    split
    · rfl
    · have := hor_last x i k (l.set k (gR l k + x * gR l (k + 1))) (by simp; omega)
      rw [List.length_set] at this
      rw [this, gR_set (by omega), if_neg (by omega)]
theorem shift_last (x : Rat) : ∀ (f i : Nat) (l : List Rat), l ≠ [] → gR (shiftGo x f i l) (l.length - 1) = gR l (l.length - 1)
  | 0, _, l, _ => rfl
  | f + 1, i, l, h => by
    have hp := List.length_pos_iff.2 h
    have := shift_last x f (i + 1) (horGo x i (l.length - 1) l) (by intro e; have := horGo_length x i (l.length - 1) l; rw [e] at this; simp at this; omega)
    rw [horGo_length] at this
    rw [shiftGo, this, hor_last x i _ l (by omega)]
theorem zer_lt_len {l : List Rat} (h : l ≠ []) (hl : gR l (l.length - 1) ≠ 0) : zer l < l.length := by
  have hp := List.length_pos_iff.2 h
  rcases Nat.lt_or_ge (zer l) l.length with h1 | h1
  · exact h1
  · exact absurd (zer_lt (by omega)) hl
theorem zer_shift {p : List Rat} (x : Rat) (h : p ≠ []) (hl : gR p (p.length - 1) ≠ 0) : zer (shiftL x p) < p.length := by
  have h1 := shiftL_length x p
  have h2 := shift_last x p.length 0 p h
  have := zer_lt_len (l := shiftL x p) (by intro e; rw [e] at h1; simp at h1; exact h (List.eq_nil_of_length_eq_zero h1.symm)) (by rw [h1]; unfold shiftL; rw [h2]; exact hl)
  omega
theorem char_zer (A : List (List Rat)) (x : Rat) : zer (shiftL x (charL A)) < (charL A).length := by
  refine zer_shift x (by intro e; have := charL_length A; rw [e] at this; simp at this) ?_
  rw [charL_length, Nat.add_sub_cancel, charL_last]; decide
theorem less_abs (p : List Rat) (x : Rat) (h : p.length ≤ 5) : -20 ≤ lessL p x ∧ lessL p x ≤ 20 := by
  have h1 := var_le (shiftL x p)
  have h2 := zer_le (shiftL x p)
  rw [shiftL_length] at h1 h2
  unfold lessL; omega
theorem equal_abs (p : List Rat) (x : Rat) (h : p.length ≤ 5) : equalL p x ≤ 5 := by
  have h2 := zer_le (shiftL x p)
  rw [shiftL_length] at h2
  unfold equalL; omega
set_option maxHeartbeats 1000000 in
theorem within0 {u : PH} {v y z : Value} {p : List Rat} {lo hi : Rat} {S T : Nat} (h : FracsP u v p) (hy : FracP u y lo) (hz : FracP u z hi) (hs : SzL p S) (hx : Sz lo T) (hx' : Sz hi T) (hST : S + T + 1 ≤ 500000) (hn : p.length ≤ 5) (h0 : p ≠ []) (hl : gR p (p.length - 1) ≠ 0) :
    Fn0 Tryz.prog 62 [v, y, z] u fun v' _ => v' = .int .i64 (withinL p lo hi) := by
  obtain ⟨a, c, rfl⟩ := h.opn
  obtain ⟨fy, rfl⟩ := hy.opF
  obtain ⟨fz, rfl⟩ := hz.opF
  have b1 := less_abs p lo hn
  have b2 := less_abs p hi hn
  have b3 := equal_abs p lo hn
  have b4 := equal_abs p hi hn
  refine Fn0.of Tryz.func62 (by kernel_rfl) (by kernel_rfl) ?_
  refine G.call0 _ _ (by kernel_rfl) Tryz.call49 (below0 (y := fv fy) h hy hs hx hST hn (zer_shift lo h0 hl)) ?_
  rintro v1 u1 l1 rfl
  refine G.call0 _ _ (by kernel_rfl) Tryz.call49 (below0 (y := fv fz) (h.mono l1) (hz.mono l1) hs hx' hST hn (zer_shift hi h0 hl)) ?_
  rintro v2 u2 l2 rfl
  refine G.add (lessL p hi) (equalL p hi : Int) (lessL p hi + (equalL p hi : Int)) (by kernel_rfl) rfl (by omega) (by omega) ?_
  refine G.sub (lessL p hi + (equalL p hi : Int)) (lessL p lo) (lessL p hi + (equalL p hi : Int) - lessL p lo) (by kernel_rfl) rfl (by omega) (by omega) ?_
  refine G.sub (lessL p hi + (equalL p hi : Int) - lessL p lo) (equalL p lo : Int) (withinL p lo hi) (by kernel_rfl) rfl (by unfold withinL; omega) (by unfold withinL; omega) ?_
  exact G.ret _ (by kernel_rfl) ⟨rfl, rfl⟩
structure Nice (A : List (List Rat)) (T : Nat) : Prop where
  sq : Sq A
  sym : SymM A
  le : A.length ≤ 4
  tle : T ≤ 400
  sz : ∀ r ∈ A, SzL r T
  light : ∃ L K, 6 * K ≤ 600 ∧ Light A L K
theorem Nice.large {u : PH} {v : Value} {A : List (List Rat)} {T : Nat} (hA : Nice A T) (ht : TabU u) (h : MatP u v (matT A)) : Fn0 Tryz.prog 44 [v] u fun v' _ => v' = .bool false := by
  obtain ⟨L, K, hK, hL⟩ := hA.light
  have hle := hA.le
  exact large0 ht h hA.sq.tx (by omega) (fun r hr => by rw [hA.sq.row r hr]; omega) hK hL
theorem polynomial0 {u : PH} {v : Value} {A : List (List Rat)} {T : Nat} (ht : TabU u) (h : MatP u v (matT A)) (hA : Nice A T) (htx : ∀ q ∈ charL A, Tx q) :
    Fn0 Tryz.prog 16 [v] u fun v' u' => ∃ r, v' = .tuple #[r, .int .i64 0] ∧ StrsP u' r ((charL A).map ratT) := by
  have hbe := fun (u' : PH) (v : Value) (hv : MatP u' v (matT A)) => begin0 hv hA.sq hA.sym
  have hla := fun (u' : PH) (v : Value) (ht' : TabU u') (hv : MatP u' v (matT A)) => hA.large ht' hv
  have hch := fun (u' : PH) (v : Value) (hv : MatP u' v (matT A)) => char0 hv hA.sq hA.le hA.tle hA.sz
  obtain ⟨a, c, rfl⟩ := h.opn
  refine Fn0.of Tryz.func16 (by kernel_rfl) (by kernel_rfl) ?_
  refine G.call0 _ _ (by kernel_rfl) Tryz.call42 (hbe _ _ h) ?_
  rintro v1 u1 l1 rfl
  refine G.neqF 0 0 (by kernel_rfl) (by omega) ?_
  refine G.call0 _ _ (by kernel_rfl) Tryz.call44 (hla _ _ (ht.mono l1) (h.mono l1)) ?_
  rintro v2 u2 l2 rfl
  refine G.call0 _ _ (by kernel_rfl) Tryz.call48 (hch _ _ (h.mono (l1.trans l2))) ?_
  rintro v3 u3 l3 ⟨k3, _⟩
  obtain ⟨a3, c3, rfl⟩ := k3.opn
  refine G.call0 _ _ (by kernel_rfl) Tryz.call51 (fracTexts0 (ht.mono ((l1.trans l2).trans l3)) k3 htx (by rw [charL_length]; have := hA.le; omega)) ?_
  rintro v4 u4 l4 ⟨r, rfl, hr⟩
  obtain ⟨a4, c4, rfl⟩ := ListP.opn hr
  exact G.ret _ (by kernel_rfl) ⟨rfl, _, rfl, hr⟩
structure NiceX (x : Rat) (n T : Nat) : Prop where
  tx : Tx x
  sz : Sz x T
  light : ∃ L K, 6 * K ≤ 600 ∧ Light ((List.replicate n x).map fun q => [q]) L K
theorem strs_rep (t : List UInt8) (n : Nat) : List.replicate n (Value.string (mkS t)) = strsV (List.replicate n t) := by simp [strsV]
set_option maxHeartbeats 1000000 in
theorem belowG {u : PH} {v : Value} {A : List (List Rat)} {T T' S : Nat} {x : Rat} (ht : TabU u) (h : MatP u v (matT A)) (hA : Nice A T) (hx : NiceX x A.length T') (hSS : SzL (charL A) (cb T A.length) → SzL (charL A) S) (hST : S + T' + 1 ≤ 500000) :
    Fn0 Tryz.prog 15 [v, .string (mkS (ratT x))] u fun v' _ => v' = .tuple #[.int .i64 (lessL (charL A) x), .int .i64 (equalL (charL A) x : Int), .int .i64 0] := by
  have hbe := fun (u' : PH) (v : Value) (hv : MatP u' v (matT A)) => begin0 hv hA.sq hA.sym
  have hla := fun (u' : PH) (v : Value) (ht' : TabU u') (hv : MatP u' v (matT A)) => hA.large ht' hv
  have hch := fun (u' : PH) (v : Value) (hv : MatP u' v (matT A)) => char0 hv hA.sq hA.le hA.tle hA.sz
  have hle := hA.le
  have hz := char_zer A x
  have hcl := charL_length A
  obtain ⟨L, K, hK, hL⟩ := hx.light
  obtain ⟨a, c, rfl⟩ := h.opn
  rw [matT_length] at h ⊢
  refine Fn0.of Tryz.func15 (by kernel_rfl) (by kernel_rfl) ?_
  refine G.call0 _ _ (by kernel_rfl) Tryz.call42 (hbe _ _ h) ?_
  rintro v1 u1 l1 rfl
  refine G.neqF 0 0 (by kernel_rfl) (by omega) ?_
  refine G.call0 _ _ (by kernel_rfl) Tryz.call43 (ratValid0 hx.tx) ?_
  rintro v2 u2 l2 rfl
  refine G.call0 _ _ (by kernel_rfl) Tryz.call44 (hla _ _ (ht.mono (l1.trans l2)) (h.mono (l1.trans l2))) ?_
  rintro v3 u3 l3 rfl
  refine G.buildU 34 1 16 (.string (mkS [])) [.string (mkS (ratT x))] (by kernel_rfl) (strsV_ok [ratT x]) rfl (by omega) (by simp) (by simp) ?_
  intro g4 u4 l4 e4
  have hLP : ListP u4 (.slice (some ⟨g4, 0, none⟩) 1 1) 1 [.string (mkS (ratT x))] := ⟨_, 1, rfl, Nat.le_refl _, fun j e hj => ⟨g4, 0, rfl, e4 j e hj⟩⟩
  refine G.call0 _ _ (by kernel_rfl) Tryz.call47 (repeatS0 (n := A.length) hLP (strsV_ok [ratT x]) (by omega)) ?_
  intro v5 u5 l5 k5
  rw [strs_rep] at k5
  obtain ⟨a5, c5, rfl⟩ := ListP.opn k5
  refine G.call0 _ _ (by kernel_rfl) Tryz.call46 (column0 k5 (by rw [List.length_replicate]; omega)) ?_
  intro v6 u6 l6 k6
  have e6 : (List.replicate A.length (ratT x)).map (fun t => [t]) = matT ((List.replicate A.length x).map fun q => [q]) := by simp [matT]
  rw [e6] at k6
  have hl6 : PH.le u u6 := ((((l1.trans l2).trans l3).trans l4).trans l5).trans l6
  have hhe := fun (v : Value) (hv : MatP u6 v (matT ((List.replicate A.length x).map fun q => [q]))) => heavy0 (N := 6) (ht.mono hl6) hv (fun r hr q hq => by
      simp only [List.map_replicate] at hr
      have := List.eq_of_mem_replicate hr
      subst this
      simp at hq; subst hq; exact hx.tx) (by simp; omega) (fun r hr => by
      simp only [List.map_replicate] at hr
      have := List.eq_of_mem_replicate hr
      subst this; simp) (by omega) hK (by omega) hL.den hL.pos hL.nl hL.dig
  obtain ⟨a6, c6, rfl⟩ := k6.opn
  refine G.call0 _ _ (by kernel_rfl) Tryz.call45 (hhe _ k6) ?_
  rintro v7 u7 l7 rfl
  have hl7 := hl6.trans l7
  refine G.call0 _ _ (by kernel_rfl) Tryz.call48 (hch _ _ (h.mono hl7)) ?_
  rintro v8 u8 l8 ⟨k8, s8⟩
  obtain ⟨a8, c8, rfl⟩ := k8.opn
  refine G.call0 _ _ (by kernel_rfl) Tryz.call50 (fracRead0 hx.tx) ?_
  intro v9 u9 l9 k9
  obtain ⟨f9, rfl⟩ := k9.opF
  refine G.call0 _ _ (by kernel_rfl) Tryz.call49 (below0 (k8.mono l9) k9 (hSS s8) hx.sz hST (by omega) hz) ?_
  rintro v10 u10 l10 rfl
  exact G.ret _ (by kernel_rfl) ⟨rfl, rfl⟩
theorem belowM0 {u : PH} {v : Value} {A : List (List Rat)} {T T' : Nat} {x : Rat} (ht : TabU u) (h : MatP u v (matT A)) (hA : Nice A T) (hx : NiceX x A.length T') (hST : cb T A.length + T' + 1 ≤ 500000) :
    Fn0 Tryz.prog 15 [v, .string (mkS (ratT x))] u fun v' _ => v' = .tuple #[.int .i64 (lessL (charL A) x), .int .i64 (equalL (charL A) x : Int), .int .i64 0] := belowG ht h hA hx id hST
theorem upToG {u : PH} {v : Value} {A : List (List Rat)} {T T' S : Nat} {x : Rat} (ht : TabU u) (h : MatP u v (matT A)) (hA : Nice A T) (hx : NiceX x A.length T') (hSS : SzL (charL A) (cb T A.length) → SzL (charL A) S) (hST : S + T' + 1 ≤ 500000) :
    Fn0 Tryz.prog 65 [v, .string (mkS (ratT x))] u fun v' _ => v' = .tuple #[.int .i64 (lessL (charL A) x + (equalL (charL A) x : Int)), .bool true] := by
  have hb := fun (v : Value) (hv : MatP u v (matT A)) => belowG ht hv hA hx hSS hST
  have hle := hA.le
  have b1 := less_abs (charL A) x (by rw [charL_length]; omega)
  have b3 := equal_abs (charL A) x (by rw [charL_length]; omega)
  obtain ⟨a, c, rfl⟩ := h.opn
  refine Fn0.of Tryz.func65 (by kernel_rfl) (by kernel_rfl) ?_
  refine G.call0 _ _ (by kernel_rfl) Tryz.call15 (hb _ h) ?_
  rintro v1 u1 l1 rfl
  refine G.add (lessL (charL A) x) (equalL (charL A) x : Int) (lessL (charL A) x + (equalL (charL A) x : Int)) (by kernel_rfl) rfl (by omega) (by omega) ?_
  refine G.eqlT 0 0 (by kernel_rfl) rfl ?_
  exact G.ret _ (by kernel_rfl) ⟨rfl, rfl⟩
end Go.Proofs.YtldokelpolbnnaaGreatDoor
end
section
set_option linter.unusedSectionVars false
set_option linter.unusedVariables false
namespace Go.Proofs.YtldokelpolbnnaaGreatDoor
open Go.RowKit
def rb (S : Nat) : Nat → Nat
  | 0 => S
  | t + 1 => rb S t + (rb S t + S + S) + 1
theorem rb_le {S t : Nat} (ht : t ≤ 5) (hS : S ≤ 1000000) : rb S t ≤ 200000000 := by
  have h0 : rb S 0 = S := rfl
  have h1 : rb S 1 = rb S 0 + (rb S 0 + S + S) + 1 := rfl
  have h2 : rb S 2 = rb S 1 + (rb S 1 + S + S) + 1 := rfl
  have h3 : rb S 3 = rb S 2 + (rb S 2 + S + S) + 1 := rfl
  have h4 : rb S 4 = rb S 3 + (rb S 3 + S + S) + 1 := rfl
  have h5 : rb S 5 = rb S 4 + (rb S 4 + S + S) + 1 := rfl
  match t, ht with
  | 0, _ => omega
  | 1, _ => omega
  | 2, _ => omega
  | 3, _ => omega
  | 4, _ => omega
  | 5, _ => omega
theorem rb_mono (S t : Nat) : rb S t ≤ rb S (t + 1) := by simp only [rb]; omega
theorem SzL.take {p : List Rat} {k : Nat} (h : SzL p k) (n : Nat) : SzL (p.take n) k := fun q hq => h q (List.mem_of_mem_take hq)
theorem szL_of {p : List Rat} {k : Nat} (h : ∀ j, j < p.length → Sz (gR p j) k) : SzL p k := by
  intro q hq
  obtain ⟨j, hj, rfl⟩ := List.mem_iff_getElem.1 hq
  have := h j hj
  rwa [gR_at hj] at this
structure DI2 where
  cnt : Nat
  z : Int
  eq : List Value
  er : List Value
  Q : List Rat
  R : List Rat
set_option maxHeartbeats 4000000 in
theorem divide0 {u : PH} {v v' : Value} {p q : List Rat} {S : Nat} (h : FracsP u v p) (h' : FracsP u v' q) (hs : SzL p S) (hs' : SzL q S) (hS : S ≤ 1000000) (hp : p ≠ []) (hp5 : p.length ≤ 5) (hq : q ≠ []) (hq5 : q.length ≤ 5) (hl : gR q (q.length - 1) ≠ 0) :
    Fn0 Tryz.prog 102 [v, v'] u fun r u' => ∃ r1 r2, r = .tuple #[r1, r2] ∧ FracsP u' r1 (quoL p q) ∧ FracsP u' r2 (remL p q) := by
  obtain ⟨a, c, rfl⟩ := h.opn
  obtain ⟨a', c', rfl⟩ := h'.opn
  have hpp := List.length_pos_iff.2 hp
  have hqp := List.length_pos_iff.2 hq
  obtain ⟨es0, hL0, hF0⟩ := id h
  have hF0' : AtP FracP u es0 p := hF0
  have hel0 : es0.length = p.length := hF0.1
  have hne0 : es0 ≠ [] := by intro e; rw [e] at hel0; simp at hel0; omega
  have zero : ((0 : Int) : Rat) = 0 := by decide
  have szt : ∀ {x : Rat} {t : Nat}, Sz x (rb S t) → t ≤ 5 → Sz x 1000000000000 := fun h1 h2 => h1.mono (Nat.le_trans (rb_le h2 hS) (by omega))
  refine Fn0.of Tryz.func102 (by kernel_rfl) (by kernel_rfl) ?_
  refine G.callO _ _ (by kernel_rfl) Tryz.call94 (clonePoly0 hL0 hF0'.ok4 hne0 (by omega)) ?_
  intro v1 u1 m1 l1 hA1 hf1
  rw [mt_or]
  obtain ⟨gR', cR, rfl⟩ := hA1.ptr hne0
  rw [hel0] at hA1 ⊢
  refine G.call0 _ _ (by kernel_rfl) Tryz.call60 (fracOf0 (z := 0) (by omega) (by omega)) ?_
  intro v2 u2 l2 k2
  rw [zero] at k2
  obtain ⟨f2, rfl⟩ := k2.opF
  refine G.buildU 90 4 64 zF [fv f2] (by kernel_rfl) (fv_ok f2) rfl (by omega) (by simp) (by simp) ?_
  intro g3 u3 l3 e3
  refine G.sub (p.length : Int) (q.length : Int) ((p.length : Int) - (q.length : Int)) (by kernel_rfl) rfl (by omega) (by omega) ?_
  refine G.add ((p.length : Int) - (q.length : Int)) 1 ((p.length : Int) - (q.length : Int) + 1) (by kernel_rfl) rfl (by omega) (by omega) ?_
  obtain ⟨n, hn⟩ : ∃ n, n = p.length + 1 - q.length := ⟨_, rfl⟩
  refine G.maxI [3, 3] 0 ((p.length : Int) - (q.length : Int) + 1) (n : Int) (by kernel_rfl) (by omega) ?_
  have hLP : ListP u3 (.slice (some ⟨g3, 0, none⟩) 1 1) 4 [fv f2] := ⟨_, 1, rfl, Nat.le_refl _, fun j e hj => ⟨g3, 0, rfl, e3 j e hj⟩⟩
  refine G.callO _ _ (by kernel_rfl) Tryz.call141 (repeatP0 (n := n) hLP (fv_ok f2) (by omega)) ?_
  intro v4 u4 m4 l4 hA4 hf4
  have hA4' := hA4.join hf4
  obtain ⟨a4, c4, rfl⟩ := hA4.shape
  rw [List.length_replicate] at hA4' ⊢
  have hbag : Bag (m1.or m4) [outArr (.slice a4 n c4) (List.replicate n (fv f2)), outArr (.slice (some ⟨gR', 0, none⟩) p.length cR) es0] := ⟨m1, hA4', PH.mt, hA1, trivial⟩
  refine G.sub (n : Int) 1 ((n : Int) - 1) (by kernel_rfl) rfl (by omega) (by omega) ?_
  refine G.loop (ι := DI2) (fun s => [(1, .v (.slice a' q.length c')), (4, .v (.slice a4 n c4)), (5, .v (.slice (some ⟨gR', 0, none⟩) p.length cR)), (6, .v (.int .i64 s.z))]) (fun _ => [])
    (fun s u' m' => s.z = (s.cnt : Int) - 1 ∧ s.cnt ≤ n ∧ s.Q.length = n ∧ s.R.length = p.length ∧ divGo q s.cnt s.Q s.R = divL p q ∧ SzL s.R (rb S (n - s.cnt)) ∧ AtP FracP u' s.eq s.Q ∧ AtP FracP u' s.er s.R ∧ Bag m' [outArr (.slice a4 n c4) s.eq, outArr (.slice (some ⟨gR', 0, none⟩) p.length cR) s.er])
    (fun s => s.cnt) ⟨n, (n : Int) - 1, List.replicate n (fv f2), es0, List.replicate n 0, p⟩ (by kernel_rfl) (fun _ => by kernel_rfl) ⟨by kernel_rfl, by kernel_rfl, by kernel_rfl⟩
    ⟨rfl, Nat.le_refl _, by simp, rfl, by dsimp only; rw [hn]; rfl, by dsimp only; rw [Nat.sub_self]; exact hs, AtP.rep (k2.mono (l3.trans l4)) n, hF0'.mono (fun _ _ h => h.mono (((l1.trans l2).trans l3).trans l4)), hbag⟩ ?_
  clear hbag hA4' hA4 hA1
  rintro J ⟨cnt, z, eq, er, Q, R⟩ hJ u5 m5 l5 ⟨hz, hcn, hQl, hRl, hgo, hszR, hatQ, hatR, hbag⟩
  simp only at hz hcn hQl hRl hgo hszR hatQ hatR hbag hJ
  have helR := hatR.1
  have helQ := hatQ.1
  have hlu : PH.le u u5 := (((l1.trans l2).trans l3).trans l4).trans l5
  by_cases hge : 0 ≤ z
  · obtain ⟨t, rfl⟩ : ∃ t : Nat, z = (t : Int) := ⟨z.toNat, by omega⟩
    obtain rfl : cnt = t + 1 := by omega
    refine G.geqT (t : Int) 0 (by kernel_rfl) (by omega) ?_
    obtain ⟨B, hB⟩ : ∃ B, B = rb S (n - (t + 1)) := ⟨_, rfl⟩
    have hB1 : rb S (n - t) = B + (B + S + S) + 1 := by rw [show n - t = (n - (t + 1)) + 1 by omega, rb, hB]
    have hBle : B ≤ 200000000 := by rw [hB]; exact rb_le (by omega) hS
    rw [← hB] at hszR
    have hti : t + q.length - 1 < R.length := by omega
    obtain ⟨e6, he6, hf6⟩ := hatR.at hti
    rw [← gR_at hti] at hf6
    obtain ⟨f6, rfl⟩ := hf6.opF
    have hEl6 : ElP m5 gR' (0 + (t + q.length - 1) * 4) (fv f6) := hbag.el 1 rfl rfl he6
    obtain ⟨b7, o7, b1, a1, n1, c1, b2, a2, n2, c2, rfl, e7, hf7⟩ := (h'.mono hlu).at (j := q.length - 1) (by omega)
    refine G.add (t : Int) (q.length : Int) ((t + q.length : Nat) : Int) (by kernel_rfl) (by omega) (by omega) (by omega) ?_
    refine G.sub ((t + q.length : Nat) : Int) 1 ((t + q.length - 1 : Nat) : Int) (by kernel_rfl) (by omega) (by omega) (by omega) ?_
    refine G.addr gR' 0 p.length cR (t + q.length - 1) 4 (by kernel_rfl) (by omega) ?_
    refine G.loadM (some 4) gR' (0 + (t + q.length - 1) * 4) _ (by kernel_rfl) (by kernel_rfl) hEl6 ?_
    refine G.sub (q.length : Int) 1 ((q.length - 1 : Nat) : Int) (by kernel_rfl) (by omega) (by omega) (by omega) ?_
    refine G.addr b7 o7 q.length c' (q.length - 1) 4 (by kernel_rfl) (by omega) ?_
    refine G.loadU (some 4) b7 (o7 + (q.length - 1) * 4) _ (by kernel_rfl) (by kernel_rfl) e7 ?_
    have hs6 := hszR.at hti
    have hs7 := hs'.at (i := q.length - 1) (by omega)
    have hsF := sz_div hs6 hs7 hl
    refine G.call0 _ _ (by kernel_rfl) Tryz.call63 (fracDiv0 hf6 hf7 (hs6.mono (by omega)) (hs7.mono (by omega)) hl) ?_
    intro v8 u8 l8 k8
    obtain ⟨f8, rfl⟩ := k8.opF
    generalize hF : gR R (t + q.length - 1) / gR q (q.length - 1) = F at *
    obtain ⟨bq, cq, eq0⟩ := hbag.ptr 0 rfl (by intro e; simp only [outArr] at e; rw [e] at helQ; simp at helQ; omega)
    simp only [outArr, Value.slice.injEq] at eq0
    obtain ⟨rfl, _, rfl⟩ := eq0
    obtain ⟨m0, hx0, hput⟩ := hbag.focus 0 rfl
    rw [outArr_at] at hx0
    refine G.addr bq 0 n c4 t 4 (by kernel_rfl) (by omega) ?_
    refine G.storeA 4 m0 eq bq n c4 t (fv f8) (by kernel_rfl) hx0 (by omega) rfl rfl ?_
    intro m9 hx9
    have hbag2 : Bag m9 [outArr (.slice (some ⟨bq, 0, none⟩) n c4) (eq.set t (fv f8)), outArr (.slice (some ⟨gR', 0, none⟩) p.length cR) er] := hput (outArr (.slice (some ⟨bq, 0, none⟩) n c4) (eq.set t (fv f8))) m9 hx9
    clear hput hx0 hx9
    refine G.loop (ι := Nat × List Value × List Rat) (fun i => [(1, .v (.slice (some ⟨b7, o7, none⟩) q.length c')), (4, .v (.slice (some ⟨bq, 0, none⟩) n c4)), (5, .v (.slice (some ⟨gR', 0, none⟩) p.length cR)), (6, .v (.int .i64 (t : Int))), (7, .p 6015 0), (48, .v (.slice (some ⟨b7, o7, none⟩) q.length c')), (49, .v (.int .i64 (q.length : Int))), (50, .v (.int .i64 (i.1 : Int)))])
      (fun _ => [(6015, ⟨90, fc f8⟩)])
      (fun i u' m' => i.1 ≤ q.length ∧ i.2.2.length = p.length ∧ subGo q F t (q.length - i.1) i.1 i.2.2 = subGo q F t q.length 0 R ∧ SzL i.2.2 (rb S (n - t)) ∧ (∀ j, t + i.1 ≤ j → j < p.length → Sz (gR i.2.2 j) B) ∧ AtP FracP u' i.2.1 i.2.2 ∧ Bag m' [outArr (.slice (some ⟨bq, 0, none⟩) n c4) (eq.set t (fv f8)), outArr (.slice (some ⟨gR', 0, none⟩) p.length cR) i.2.1])
      (fun i => q.length - i.1) (0, er, R) (by kernel_rfl) (fun _ => by kernel_rfl) ⟨by kernel_rfl, by kernel_rfl, by kernel_rfl⟩
      ⟨Nat.zero_le _, hRl, rfl, hszR.mono (by omega), fun j _ h2 => hszR.at (by omega), hatR.mono (fun _ _ h => h.mono l8), hbag2⟩ ?_
    rintro J2 ⟨i, er2, R2⟩ hJ2 u9 m10 l9 ⟨hi, hR2, hsg, hszR2, hszB, hat2, hbag3⟩
    simp only at hi hR2 hsg hszR2 hszB hat2 hbag3 hJ2
    have her2 := hat2.1
    by_cases hlt : i < q.length
    · refine G.lssT (i : Int) (q.length : Int) (by kernel_rfl) (by omega) ?_
      obtain ⟨b10, o10, d1, d2, d3, d4, d5, d6, d7, d8, eqa, e10, hf10⟩ := (h'.mono (hlu.trans (l8.trans l9))).at (j := i) hlt
      cases eqa
      refine G.addr b7 o7 q.length c' i 4 (by kernel_rfl) hlt ?_
      refine G.loadU (some 4) b7 (o7 + i * 4) _ (by kernel_rfl) (by kernel_rfl) e10 ?_
      have hti2 : t + i < R2.length := by omega
      obtain ⟨e11, he11, hf11⟩ := hat2.at hti2
      rw [← gR_at hti2] at hf11
      obtain ⟨f11, rfl⟩ := hf11.opF
      have hEl11 : ElP m10 gR' (0 + (t + i) * 4) (fv f11) := hbag3.el 1 rfl rfl he11
      refine G.add (t : Int) (i : Int) ((t + i : Nat) : Int) (by kernel_rfl) (by omega) (by omega) (by omega) ?_
      refine G.add (t : Int) (i : Int) ((t + i : Nat) : Int) (by kernel_rfl) (by omega) (by omega) (by omega) ?_
      refine G.addr gR' 0 p.length cR (t + i) 4 (by kernel_rfl) (by omega) ?_
      refine G.loadM (some 4) gR' (0 + (t + i) * 4) _ (by kernel_rfl) (by kernel_rfl) hEl11 ?_
      have hsx := hs'.at hlt
      have hsP := sz_mul2 hsF hsx
      have hsr := hszB (t + i) (Nat.le_refl _) (by omega)
      refine G.call0 _ _ (by kernel_rfl) Tryz.call93 (fracMul0 (k8.mono l9) hf10 (hsF.mono (by omega)) (hsx.mono (by omega))) ?_
      intro v12 u12 l12 k12
      obtain ⟨f12, rfl⟩ := k12.opF
      refine G.call0 _ _ (by kernel_rfl) Tryz.call142 (fracSub0 (hf11.mono l12) k12 (hsr.mono (by omega)) (hsP.mono (by omega))) ?_
      intro v13 u13 l13 k13
      obtain ⟨f13, rfl⟩ := k13.opF
      have hsn : Sz (gR R2 (t + i) - F * gR q i) (rb S (n - t)) := (sz_sub2 hsr hsP).mono (by omega)
      obtain ⟨m0, hx0, hput⟩ := hbag3.focus 1 rfl
      rw [outArr_at] at hx0
      refine G.addr gR' 0 p.length cR (t + i) 4 (by kernel_rfl) (by omega) ?_
      refine G.storeA 4 m0 er2 gR' p.length cR (t + i) (fv f13) (by kernel_rfl) hx0 (by omega) rfl rfl ?_
      intro m14 hx14
      have hbag4 := hput (outArr (.slice (some ⟨gR', 0, none⟩) p.length cR) (er2.set (t + i) (fv f13))) m14 hx14
      refine G.add (i : Int) 1 ((i + 1 : Nat) : Int) (by kernel_rfl) (by omega) (by omega) (by omega) ?_
      refine G.back (by kernel_rfl) (hJ2 (i + 1, er2.set (t + i) (fv f13), R2.set (t + i) (gR R2 (t + i) - F * gR q i)) _ _ _ ⟨by kernel_rfl, by kernel_rfl, by kernel_rfl⟩ ((l9.trans l12).trans l13) ⟨by dsimp only; omega, by simp [hR2], ?_, hszR2.set hsn, ?_, ?_, hbag4⟩ (by dsimp only; omega))
      · dsimp only
        rw [← hsg, show q.length - i = (q.length - (i + 1)) + 1 by omega, subGo]
      · intro j h1 h2
        dsimp only at h1 ⊢
        rw [gR_set hti2, if_neg (by omega)]
        exact hszB j (by omega) h2
      · exact (hat2.mono (fun _ _ h => h.mono (l12.trans l13))).set (t + i) k13
    · obtain rfl : i = q.length := by omega
      refine G.lssF (q.length : Int) (q.length : Int) (by kernel_rfl) (by omega) ?_
      rw [Nat.sub_self, subGo] at hsg
      refine G.sub (t : Int) 1 ((t : Int) - 1) (by kernel_rfl) rfl (by omega) (by omega) ?_
      refine G.back (by kernel_rfl) (hJ ⟨t, (t : Int) - 1, eq.set t (fv f8), er2, Q.set t F, R2⟩ _ _ _ ⟨by kernel_rfl, by kernel_rfl, by kernel_rfl⟩ ((l5.trans l8).trans l9) ⟨rfl, by dsimp only; omega, by simp [hQl], hR2, ?_, hszR2, ?_, hat2, hbag3⟩ (by dsimp only; omega))
      · dsimp only
        rw [← hgo, divGo, hF, hsg]
      · exact (hatQ.mono (fun _ _ h => h.mono (l8.trans l9))).set t (k8.mono l9)
  · obtain rfl : cnt = 0 := by omega
    refine G.geqF z 0 (by kernel_rfl) (by omega) ?_
    rw [divGo] at hgo
    obtain ⟨m0, hx0, hbag2⟩ := hbag.take 1 rfl
    rw [outArr_at] at hx0
    refine G.give m0 er _ (by kernel_rfl) hx0 (fun _ => .inl rfl) ?_
    intro u6 l6 hLr
    obtain ⟨m1', hx1, _⟩ := hbag2.take 0 rfl
    rw [outArr_at] at hx1
    refine G.give m1' eq _ (by kernel_rfl) hx1 (fun _ => .inl rfl) ?_
    intro u7 l7 hLq
    refine G.drop PH.mt (by kernel_rfl) (PH.mt_le _) ?_
    have hR : FracsP u7 (.slice (some ⟨gR', 0, none⟩) p.length cR) R := ⟨er, hLr.mono l7, hatR.mono (fun _ _ h => h.mono (l6.trans l7))⟩
    have hQ : FracsP u7 (.slice a4 n c4) Q := ⟨eq, hLq, hatQ.mono (fun _ _ h => h.mono (l6.trans l7))⟩
    refine G.call0 _ _ (by kernel_rfl) Tryz.call143 (trim0 hR hszR (Nat.le_trans (rb_le (by omega) hS) (by omega)) (by omega)) ?_
    intro v8 u8 l8 k8
    obtain ⟨a8, c8, rfl⟩ := k8.opn
    refine G.ret (.tuple #[.slice a4 n c4, .slice a8 (trimL R).length c8]) (by kernel_rfl) ⟨rfl, .slice a4 n c4, .slice a8 (trimL R).length c8, rfl, ?_, ?_⟩
    · unfold quoL; rw [← hgo]; exact hQ.mono l8
    · unfold remL; rw [← hgo]; exact k8
def simOK : Nat → List Rat → List Rat → Prop
  | _, _, [] => True
  | 0, _, _ :: _ => False
  | f + 1, a, x :: b => gR (x :: b) ((x :: b).length - 1) ≠ 0 ∧ a ≠ [] ∧ a.length ≤ 5 ∧ (x :: b).length ≤ 5 ∧ SzL a 1000000 ∧ SzL (x :: b) 1000000 ∧ simOK f (x :: b) (remL a (x :: b))
def simGo : Nat → List Rat → List Rat → List Rat
  | 0, a, _ => a
  | f + 1, a, b => if b = [] then a else simGo f b (remL a b)
theorem simGo_nil : ∀ (f : Nat) (a : List Rat), simGo f a [] = a
  | 0, _ => rfl
  | f + 1, _ => by simp [simGo]
def simpL (f : Nat) (p : List Rat) : List Rat := quoL p (simGo f p (derL p))
structure SimP (f : Nat) (p : List Rat) : Prop where
  ok : simOK f p (derL p)
  ne : p ≠ []
  len : p.length ≤ 5
  sz : SzL p 1000000
  ne' : simGo f p (derL p) ≠ []
  len' : (simGo f p (derL p)).length ≤ 5
  sz' : SzL (simGo f p (derL p)) 1000000
  last : gR (simGo f p (derL p)) ((simGo f p (derL p)).length - 1) ≠ 0
set_option maxHeartbeats 1000000 in
theorem simple0 {u : PH} {v : Value} {p : List Rat} {f : Nat} (h : FracsP u v p) (hp : SimP f p) : Fn0 Tryz.prog 57 [v] u fun v' u' => FracsP u' v' (simpL f p) := by
  obtain ⟨a, c, rfl⟩ := h.opn
  have hlen := hp.len
  refine Fn0.of Tryz.func57 (by kernel_rfl) (by kernel_rfl) ?_
  refine G.call0 _ _ (by kernel_rfl) Tryz.call101 (derivative0 h hp.sz (by omega) (by omega)) ?_
  intro v1 u1 l1 k1
  obtain ⟨a1, c1, rfl⟩ := k1.opn
  refine G.loop (ι := Nat × (Option Addr × Nat) × (Option Addr × Nat) × List Rat × List Rat) (fun i => [(0, .v (.slice a p.length c)), (3, .v (.slice i.2.1.1 i.2.2.2.1.length i.2.1.2)), (4, .v (.slice i.2.2.1.1 i.2.2.2.2.length i.2.2.1.2))]) (fun _ => [])
    (fun i u' m' => simOK i.1 i.2.2.2.1 i.2.2.2.2 ∧ simGo i.1 i.2.2.2.1 i.2.2.2.2 = simGo f p (derL p) ∧ FracsP u' (.slice i.2.1.1 i.2.2.2.1.length i.2.1.2) i.2.2.2.1 ∧ FracsP u' (.slice i.2.2.1.1 i.2.2.2.2.length i.2.2.1.2) i.2.2.2.2 ∧ m' = PH.mt)
    (fun i => i.1) (f, (a, c), (a1, c1), p, derL p) (by kernel_rfl) (fun _ => by kernel_rfl) ⟨by kernel_rfl, by kernel_rfl, by kernel_rfl⟩ ⟨hp.ok, rfl, h.mono l1, k1, rfl⟩ ?_
  rintro J ⟨k, ⟨a2, c2⟩, ⟨a3, c3⟩, x, y⟩ hJ u2 m2 l2 ⟨hok, hgo, hx, hy, rfl⟩
  simp only at hok hgo hx hy hJ
  cases y with
  | nil =>
    refine G.gtrF ((0 : Nat) : Int) 0 (by kernel_rfl) (by omega) ?_
    rw [simGo_nil] at hgo
    subst hgo
    refine G.call0 _ _ (by kernel_rfl) Tryz.call102 (divide0 (h.mono (l1.trans l2)) hx hp.sz hp.sz' (by omega) hp.ne hlen hp.ne' hp.len' hp.last) ?_
    rintro v4 u4 l4 ⟨r1, r2, rfl, k4, k5⟩
    obtain ⟨a4, c4, rfl⟩ := k4.opn
    obtain ⟨a5, c5, rfl⟩ := k5.opn
    exact G.ret _ (by kernel_rfl) ⟨rfl, k4⟩
  | cons y0 y =>
    cases k with
    | zero => exact hok.elim
    | succ k =>
      obtain ⟨h1, h2, h3, h4, h5, h6, h7⟩ := hok
      refine G.gtrT (((y0 :: y).length : Nat) : Int) 0 (by kernel_rfl) (by simp) ?_
      refine G.call0 _ _ (by kernel_rfl) Tryz.call102 (divide0 hx hy h5 h6 (by omega) h2 h3 (by simp) h4 h1) ?_
      rintro v4 u4 l4 ⟨r1, r2, rfl, k4, k5⟩
      obtain ⟨a4, c4, rfl⟩ := k4.opn
      obtain ⟨a5, c5, rfl⟩ := k5.opn
      refine G.back (by kernel_rfl) (hJ (k, (a3, c3), (a5, c5), y0 :: y, remL x (y0 :: y)) _ _ _ ⟨by kernel_rfl, by kernel_rfl, by kernel_rfl⟩ (l2.trans l4) ⟨h7, ?_, hy.mono l4, k5, rfl⟩ (by dsimp only; omega))
      dsimp only
      rw [← hgo, simGo, if_neg (by simp)]
end Go.Proofs.YtldokelpolbnnaaGreatDoor
end
section
namespace Go.Proofs.YtldokelpolbnnaaGreatDoor
def absR (q : Rat) : Rat := if q < 0 then -q else q
def asumGo (r : List Rat) : Nat → Nat → Rat → Rat
  | 0, _, s => s
  | f + 1, i, s => asumGo r f (i + 1) (s + absR (gR r i))
def dblGo : Nat → Rat → Rat → Rat
  | 0, o, _ => o
  | f + 1, o, s => if o < s then dblGo f (o + o) s else o
def bndGo (F : Nat) (A : List (List Rat)) : Nat → Nat → Rat → Rat
  | 0, _, o => o
  | f + 1, i, o => bndGo F A f (i + 1) (dblGo F o (asumGo (gM A i) (gM A i).length 0 0))
def bndL (F : Nat) (A : List (List Rat)) : Rat := bndGo F A A.length 0 1
def smallB (q : Rat) : Bool := decide (q.num.natAbs < 10 ^ 100) && decide (q.den < 10 ^ 100)
def dblB : Nat → Rat → Rat → Bool
  | 0, o, s => smallB o && !decide (o < s)
  | f + 1, o, s => smallB o && (!decide (o < s) || dblB f (o + o) s)
def bndB (F : Nat) (A : List (List Rat)) : Nat → Nat → Rat → Bool
  | 0, _, o => smallB o
  | f + 1, i, o => dblB F o (asumGo (gM A i) (gM A i).length 0 0) && bndB F A f (i + 1) (dblGo F o (asumGo (gM A i) (gM A i).length 0 0))
def specGo (all sim : List Rat) (h : Nat) : Nat → List (Rat × Rat × Nat) → List (Rat × Rat × Int) → Option (List (Rat × Rat × Int))
  | 0, _, _ => none
  | _ + 1, [], out => some out
  | f + 1, x :: st, out =>
    if smallB x.1 && smallB x.2.1 then
      if withinL sim x.1 x.2.1 = 0 then specGo all sim h f st out
      else if withinL sim x.1 x.2.1 = 1 ∧ h ≤ x.2.2 then specGo all sim h f st (out ++ [(x.1, x.2.1, withinL all x.1 x.2.1)])
      else if 60 ≤ x.2.2 then none
      else specGo all sim h f ((x.1, (x.1 + x.2.1) / 2, x.2.2 + 1) :: ((x.1 + x.2.1) / 2, x.2.1, x.2.2 + 1) :: st) out
    else none
def okPrev : Option Rat → Rat → Bool
  | none, _ => true
  | some r, x => decide (r ≤ x)
def chkGo (p : List Rat) : Option Rat → List (Rat × Rat × Int) → Int → Option Int
  | _, [], s => some s
  | pr, x :: l, s =>
    if smallB x.1 && smallB x.2.1 && decide (x.1 < x.2.1) && okPrev pr x.1 && decide (lessL p x.2.1 + (equalL p x.2.1 : Int) - (lessL p x.1 + (equalL p x.1 : Int)) = x.2.2) && decide (1 ≤ x.2.2)
    then chkGo p (some x.2.1) l (s + x.2.2) else none
end Go.Proofs.YtldokelpolbnnaaGreatDoor
end
section
set_option linter.unusedSectionVars false
set_option linter.unusedVariables false
namespace Go.Proofs.YtldokelpolbnnaaGreatDoor
open Go.RowKit
theorem dig_of_lt : ∀ {k n : Nat} (_ : 0 < k) (_ : n < 10 ^ k), Lib.nDigits n ≤ k
  | 0, n, hk, h => by omega
  | k + 1, n, hk, h => by
    by_cases hn : n < 10
    · rw [Lib.nDigits_small hn]; omega
    · rw [Lib.nDigits_big hn]
      have hk0 : 0 < k := by
        rcases Nat.eq_zero_or_pos k with h0 | h0
        · subst h0; simp at h; omega
        · exact h0
      have := dig_of_lt (k := k) (n := n / 10) hk0 (by rw [Nat.div_lt_iff_lt_mul (by omega), ← Nat.pow_succ]; exact h)
      omega
theorem smallB_spec {q : Rat} (h : smallB q = true) : Tx q ∧ Sz q 12 := by
  simp only [smallB, Bool.and_eq_true, decide_eq_true_eq] at h
  have h1 := dig_of_lt (by omega) h.1
  have h2 := dig_of_lt (by omega) h.2
  have e : (10 : Nat) ^ 100 ≤ 1000000000 ^ 12 := by decide
  exact ⟨⟨by omega, by omega⟩, nl_le_of_lt (Nat.lt_of_lt_of_le h.1 e), nl_le_of_lt (Nat.lt_of_lt_of_le h.2 e)⟩
theorem sg_lt {q r : Rat} : sg (q - r) < 0 ↔ q < r := by
  rcases sg_cases (q - r) with ⟨h, e⟩ | ⟨h, e⟩ | ⟨h, e⟩
  · rw [e]; exact ⟨fun _ => by grind, fun _ => by omega⟩
  · rw [e]; exact ⟨fun h' => by omega, fun h' => by grind⟩
  · rw [e]; exact ⟨fun h' => by omega, fun h' => by grind⟩
theorem fracCompareS {u : PH} {x x' : Value} {q r : Rat} (h : FracP u x q) (h' : FracP u x' r) (h1 : Sz q 1000000000000) (h2 : Sz r 1000000000000) : Fn0 Tryz.prog 103 [x, x'] u fun v _ => v = .int .i64 (sg (q - r)) := by
  rw [← sgn_num, ← cmp_sub]; exact fracCompare0 h h' h1 h2
theorem sz_abs {q : Rat} {k : Nat} (h : Sz q k) : Sz (absR q) k := by
  unfold absR; split
  · exact sz_neg h
  · exact h
set_option maxHeartbeats 4000000 in
theorem bound0 {u : PH} {v : Value} {A : List (List Rat)} {T F : Nat} (h : MatP u v (matT A)) (hA : Nice A T) (hb : bndB F A A.length 0 1 = true) :
    Fn0 Tryz.prog 58 [v] u fun v' u' => FracP u' v' (bndL F A) := by
  obtain ⟨a, c, rfl⟩ := h.opn
  rw [matT_length] at h ⊢
  have hle := hA.le
  have hT := hA.tle
  have one : ((1 : Int) : Rat) = 1 := by decide
  have zero : ((0 : Int) : Rat) = 0 := by decide
  refine Fn0.of Tryz.func58 (by kernel_rfl) (by kernel_rfl) ?_
  refine G.call0 _ _ (by kernel_rfl) Tryz.call60 (fracOf0 (z := 1) (by omega) (by omega)) ?_
  intro v1 u1 l1 k1
  rw [one] at k1
  obtain ⟨f1, rfl⟩ := k1.opF
  refine G.loop (ι := Nat × F4 × Rat) (fun i => [(2, .p 0 0), (3, .p 1001 0), (10, .v (.slice a A.length c)), (11, .v (.int .i64 (A.length : Int))), (12, .v (.int .i64 (i.1 : Int)))])
    (fun i => [(0, ⟨90, [.v (.bool false), .v (.slice none 0 0), .v (.bool false), .v (.slice none 0 0)]⟩), (1001, ⟨90, fc i.2.1⟩)])
    (fun i u' m' => i.1 ≤ A.length ∧ bndB F A (A.length - i.1) i.1 i.2.2 = true ∧ bndGo F A (A.length - i.1) i.1 i.2.2 = bndL F A ∧ FracP u' (fv i.2.1) i.2.2 ∧ m' = PH.mt)
    (fun i => A.length - i.1) (0, f1, 1) (by kernel_rfl) (fun _ => by kernel_rfl) ⟨by kernel_rfl, by kernel_rfl, by kernel_rfl⟩ ⟨Nat.zero_le _, hb, rfl, k1, rfl⟩ ?_
  rintro J ⟨i, fo, o⟩ hJ u2 m2 l2 ⟨hi, hbo, hgo, ho, rfl⟩
  simp only at hi hbo hgo ho hJ
  by_cases hlt : i < A.length
  · refine G.lssT (i : Int) (A.length : Int) (by kernel_rfl) (by omega) ?_
    have htk : A[i]? = some A[i] := List.getElem?_eq_getElem hlt
    have hmem := List.getElem_mem hlt
    have hgm := gM_at hlt
    have hrl : A[i].length = A.length := hA.sq.row _ hmem
    obtain ⟨ba, oa, a3, c3, rfl, e3, s3⟩ := (h.mono (l1.trans l2)).row (matT_at htk)
    rw [List.length_map] at e3 s3
    refine G.addr ba oa A.length c i 1 (by kernel_rfl) (by omega) ?_
    refine G.loadU none ba (oa + i * 1) _ (by kernel_rfl) (by kernel_rfl) e3 ?_
    refine G.call0 _ _ (by kernel_rfl) Tryz.call60 (fracOf0 (z := 0) (by omega) (by omega)) ?_
    intro v4 u4 l4 k4
    rw [zero] at k4
    obtain ⟨f4, rfl⟩ := k4.opF
    refine G.call0 _ _ (by kernel_rfl) Tryz.call91 (fracList0 (ListP.mono s3 l4) (hA.sq.tx _ hmem) (by omega)) ?_
    intro v5 u5 l5 k5
    obtain ⟨a5, c5, rfl⟩ := k5.opn
    have hszr := hA.sz _ hmem
    rw [show A.length - i = (A.length - (i + 1)) + 1 by omega, bndB, Bool.and_eq_true, hgm] at hbo
    rw [show A.length - i = (A.length - (i + 1)) + 1 by omega, bndGo, hgm] at hgo
    generalize A[i] = r at *
    refine G.loop (ι := Nat × F4 × Rat) (fun j => [(2, .p 0 0), (3, .p 1001 0), (10, .v (.slice (some ⟨ba, oa, none⟩) A.length c)), (11, .v (.int .i64 (A.length : Int))), (12, .v (.int .i64 (i : Int))), (6, .p 5001 0), (18, .v (.slice a5 r.length c5)), (19, .v (.int .i64 (r.length : Int))), (20, .v (.int .i64 (j.1 : Int)))])
      (fun j => [(0, ⟨90, [.v (.bool false), .v (.slice none 0 0), .v (.bool false), .v (.slice none 0 0)]⟩), (1001, ⟨90, fc fo⟩), (5001, ⟨90, fc j.2.1⟩)])
      (fun j u' m' => j.1 ≤ r.length ∧ asumGo r (r.length - j.1) j.1 j.2.2 = asumGo r r.length 0 0 ∧ Sz j.2.2 (1 + j.1 * (T + 1)) ∧ FracP u' (fv j.2.1) j.2.2 ∧ m' = PH.mt)
      (fun j => r.length - j.1) (0, f4, 0) (by kernel_rfl) (fun _ => by kernel_rfl) ⟨by kernel_rfl, by kernel_rfl, by kernel_rfl⟩ ⟨Nat.zero_le _, rfl, sz_zero.mono (by omega), k4.mono l5, rfl⟩ ?_
    rintro J2 ⟨j, fs, s⟩ hJ2 u6 m6 l6 ⟨hj, hag, hsz, hs, rfl⟩
    simp only at hj hag hsz hs hJ2
    have hjT : j * (T + 1) ≤ 4 * (T + 1) := Nat.mul_le_mul_right _ (by omega)
    by_cases hltj : j < r.length
    · refine G.lssT (j : Int) (r.length : Int) (by kernel_rfl) (by omega) ?_
      obtain ⟨b7, o7, d1, d2, d3, d4, d5, d6, d7, d8, rfl, e7, hf7⟩ := (k5.mono l6).at (j := j) hltj
      have hs7 := hszr.at hltj
      refine G.addr b7 o7 r.length c5 j 4 (by kernel_rfl) hltj ?_
      refine G.loadU (some 4) b7 (o7 + j * 4) _ (by kernel_rfl) (by kernel_rfl) e7 ?_
      refine G.call0 _ _ (by kernel_rfl) Tryz.call95 (fracSignS hf7 hs7 (by omega)) ?_
      rintro v8 u8 l8 rfl
      have hse := Nat.succ_mul j (T + 1)
      simp only [Nat.succ_eq_add_one] at hse
      have hsn := sz_add2 hsz (sz_abs hs7)
      by_cases hneg : gR r j < 0
      · have hab : absR (gR r j) = -gR r j := by unfold absR; rw [if_pos hneg]
        refine G.lssT (sg (gR r j)) 0 (by kernel_rfl) (by rw [sg_neg hneg]; omega) ?_
        refine G.call0 _ _ (by kernel_rfl) Tryz.call61 (fracNeg0 (hf7.mono l8) (Nat.le_trans hs7.1 (by omega))) ?_
        intro v9 u9 l9 k9
        obtain ⟨f9, rfl⟩ := k9.opF
        rw [← hab] at k9
        refine G.call0 _ _ (by kernel_rfl) Tryz.call59 (fracAdd0 (hs.mono (l8.trans l9)) k9 (hsz.mono (by omega)) ((sz_abs hs7).mono (by omega))) ?_
        intro v10 u10 l10 k10
        obtain ⟨f10, rfl⟩ := k10.opF
        refine G.add (j : Int) 1 ((j + 1 : Nat) : Int) (by kernel_rfl) (by omega) (by omega) (by omega) ?_
        refine G.back (by kernel_rfl) (hJ2 (j + 1, f10, s + absR (gR r j)) _ _ _ ⟨by kernel_rfl, by kernel_rfl, by kernel_rfl⟩ (((l6.trans l8).trans l9).trans l10) ⟨by dsimp only; omega, ?_, hsn.mono (by dsimp only; omega), k10, rfl⟩ (by dsimp only; omega))
        dsimp only
        rw [← hag, show r.length - j = (r.length - (j + 1)) + 1 by omega, asumGo]
      · have hab : absR (gR r j) = gR r j := by unfold absR; rw [if_neg hneg]
        refine G.lssF (sg (gR r j)) 0 (by kernel_rfl) (by rcases sg_cases (gR r j) with ⟨h, e⟩ | ⟨h, e⟩ | ⟨h, e⟩ <;> rw [e] <;> first | exact absurd h hneg | omega) ?_
        refine G.call0 _ _ (by kernel_rfl) Tryz.call59 (fracAdd0 (hs.mono l8) (hf7.mono l8) (hsz.mono (by omega)) (hs7.mono (by omega))) ?_
        intro v10 u10 l10 k10
        obtain ⟨f10, rfl⟩ := k10.opF
        rw [← hab] at k10
        refine G.add (j : Int) 1 ((j + 1 : Nat) : Int) (by kernel_rfl) (by omega) (by omega) (by omega) ?_
        refine G.back (by kernel_rfl) (hJ2 (j + 1, f10, s + absR (gR r j)) _ _ _ ⟨by kernel_rfl, by kernel_rfl, by kernel_rfl⟩ ((l6.trans l8).trans l10) ⟨by dsimp only; omega, ?_, hsn.mono (by dsimp only; omega), k10, rfl⟩ (by dsimp only; omega))
        dsimp only
        rw [← hag, show r.length - j = (r.length - (j + 1)) + 1 by omega, asumGo, hab]
    · obtain rfl : j = r.length := by omega
      refine G.lssF (r.length : Int) (r.length : Int) (by kernel_rfl) (by omega) ?_
      rw [Nat.sub_self, asumGo] at hag
      rw [← hag] at hbo hgo
      have hss : Sz s 1000000000000 := hsz.mono (by omega)
      refine G.loop (ι := Nat × F4 × Rat) (fun j => [(2, .p 0 0), (3, .p 1001 0), (10, .v (.slice (some ⟨ba, oa, none⟩) A.length c)), (11, .v (.int .i64 (A.length : Int))), (12, .v (.int .i64 (i : Int))), (6, .p 5001 0)])
        (fun j => [(0, ⟨90, [.v (.bool false), .v (.slice none 0 0), .v (.bool false), .v (.slice none 0 0)]⟩), (1001, ⟨90, fc j.2.1⟩), (5001, ⟨90, fc fs⟩)])
        (fun j u' m' => dblB j.1 j.2.2 s = true ∧ dblGo j.1 j.2.2 s = dblGo F o s ∧ FracP u' (fv j.2.1) j.2.2 ∧ m' = PH.mt)
        (fun j => j.1) (F, fo, o) (by kernel_rfl) (fun _ => by kernel_rfl) ⟨by kernel_rfl, by kernel_rfl, by kernel_rfl⟩ ⟨hbo.1, rfl, ho.mono ((l4.trans l5).trans l6), rfl⟩ ?_
      rintro J3 ⟨k, fp, p⟩ hJ3 u7 m7 l7 ⟨hdb, hdg, hp, rfl⟩
      simp only at hdb hdg hp hJ3
      have hsmall : smallB p = true := by cases k <;> simp only [dblB, Bool.and_eq_true] at hdb <;> exact hdb.1
      have hszp : Sz p 1000000000000 := (smallB_spec hsmall).2.mono (by omega)
      refine G.call0 _ _ (by kernel_rfl) Tryz.call103 (fracCompareS hp (hs.mono l7) hszp hss) ?_
      rintro v8 u8 l8 rfl
      by_cases hps : p < s
      · refine G.lssT (sg (p - s)) 0 (by kernel_rfl) (sg_lt.2 hps) ?_
        cases k with
        | zero => simp [dblB, hps] at hdb
        | succ k =>
          refine G.call0 _ _ (by kernel_rfl) Tryz.call59 (fracAdd0 (hp.mono l8) (hp.mono l8) hszp hszp) ?_
          intro v9 u9 l9 k9
          obtain ⟨f9, rfl⟩ := k9.opF
          simp only [dblB, Bool.and_eq_true, hps, decide_true, Bool.not_true, Bool.false_or] at hdb
          refine G.back (by kernel_rfl) (hJ3 (k, f9, p + p) _ _ _ ⟨by kernel_rfl, by kernel_rfl, by kernel_rfl⟩ ((l7.trans l8).trans l9) ⟨hdb.2, ?_, k9, rfl⟩ (by dsimp only; omega))
          dsimp only
          rw [← hdg, dblGo, if_pos hps]
      · refine G.lssF (sg (p - s)) 0 (by kernel_rfl) (fun h' => hps (sg_lt.1 h')) ?_
        have hpe : dblGo F o s = p := by
          rw [← hdg]
          cases k with
          | zero => rfl
          | succ k => rw [dblGo, if_neg hps]
        rw [hpe] at hbo hgo
        refine G.add (i : Int) 1 ((i + 1 : Nat) : Int) (by kernel_rfl) (by omega) (by omega) (by omega) ?_
        exact G.back (by kernel_rfl) (hJ (i + 1, fp, p) _ _ _ ⟨by kernel_rfl, by kernel_rfl, by kernel_rfl⟩ (((((l2.trans l4).trans l5).trans l6).trans l7).trans l8) ⟨by dsimp only; omega, hbo.2, hgo, hp.mono l8, rfl⟩ (by dsimp only; omega))
  · obtain rfl : i = A.length := by omega
    refine G.lssF (A.length : Int) (A.length : Int) (by kernel_rfl) (by omega) ?_
    rw [Nat.sub_self, bndGo] at hgo
    rw [hgo] at ho
    exact G.ret (fv fo) (by kernel_rfl) ⟨rfl, ho⟩
end Go.Proofs.YtldokelpolbnnaaGreatDoor
end
