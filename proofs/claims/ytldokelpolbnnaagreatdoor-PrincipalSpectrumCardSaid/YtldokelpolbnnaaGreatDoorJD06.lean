/- Joined out of parts of one proof by a program: contracts of the functions that the statement reaches, and the plain facts behind them. -/
import Derived.Test.YtldokelpolbnnaaGreatDoorJD05
import Derived.Lib.TrimByte
import Derived.Lib.ItoaNum
import Derived.Laws.IdiomStrings
set_option linter.unusedVariables false
set_option linter.unusedSimpArgs false
set_option linter.unusedSectionVars false
section
set_option linter.unusedSectionVars false
set_option linter.unusedVariables false
namespace Go.Proofs.YtldokelpolbnnaaGreatDoor
open Go.RowKit
theorem tdiv_nat (m n : Nat) : ((m : Int)).tdiv n = ((m / n : Nat) : Int) := rfl
theorem tmod_nat (m n : Nat) : ((m : Int)).tmod n = ((m % n : Nat) : Int) := rfl
theorem tdiv_sgnd (y z : Int) : sgnd (!(decide (y < 0) == decide (z < 0))) (y.natAbs / z.natAbs) = y.tdiv z := by
  unfold sgnd
  rcases Int.lt_or_le y 0 with hy | hy <;> rcases Int.lt_or_le z 0 with hz | hz
  · rw [decide_eq_true hy, decide_eq_true hz]
    obtain ⟨m, rfl⟩ : ∃ m : Nat, y = -(m : Int) := ⟨y.natAbs, by omega⟩
    obtain ⟨n, rfl⟩ : ∃ n : Nat, z = -(n : Int) := ⟨z.natAbs, by omega⟩
    rw [Int.neg_tdiv, Int.tdiv_neg, Int.neg_neg, tdiv_nat, Int.natAbs_neg, Int.natAbs_neg]; rfl
  · rw [decide_eq_true hy, decide_eq_false (show ¬ z < 0 by omega)]
    obtain ⟨m, rfl⟩ : ∃ m : Nat, y = -(m : Int) := ⟨y.natAbs, by omega⟩
    obtain ⟨n, rfl⟩ : ∃ n : Nat, z = (n : Int) := ⟨z.natAbs, by omega⟩
    rw [Int.neg_tdiv, tdiv_nat, Int.natAbs_neg]; rfl
  · rw [decide_eq_false (show ¬ y < 0 by omega), decide_eq_true hz]
    obtain ⟨m, rfl⟩ : ∃ m : Nat, y = (m : Int) := ⟨y.natAbs, by omega⟩
    obtain ⟨n, rfl⟩ : ∃ n : Nat, z = -(n : Int) := ⟨z.natAbs, by omega⟩
    rw [Int.tdiv_neg, tdiv_nat, Int.natAbs_neg]; rfl
  · rw [decide_eq_false (show ¬ y < 0 by omega), decide_eq_false (show ¬ z < 0 by omega)]
    obtain ⟨m, rfl⟩ : ∃ m : Nat, y = (m : Int) := ⟨y.natAbs, by omega⟩
    obtain ⟨n, rfl⟩ : ∃ n : Nat, z = (n : Int) := ⟨z.natAbs, by omega⟩
    rw [tdiv_nat]; rfl
theorem tmod_sgnd (y z : Int) : sgnd (decide (y < 0)) (y.natAbs % z.natAbs) = y.tmod z := by
  unfold sgnd
  have hn : ∀ m : Nat, ((m : Int)).tmod z = ((m % z.natAbs : Nat) : Int) := by
    intro m
    rcases Int.lt_or_le z 0 with hz | hz
    · obtain ⟨n, rfl⟩ : ∃ n : Nat, z = -(n : Int) := ⟨z.natAbs, by omega⟩
      rw [Int.tmod_neg, tmod_nat, Int.natAbs_neg]; rfl
    · obtain ⟨n, rfl⟩ : ∃ n : Nat, z = (n : Int) := ⟨z.natAbs, by omega⟩
      rw [tmod_nat]; rfl
  rcases Int.lt_or_le y 0 with hy | hy
  · rw [decide_eq_true hy]
    obtain ⟨m, rfl⟩ : ∃ m : Nat, y = -(m : Int) := ⟨y.natAbs, by omega⟩
    rw [Int.neg_tmod, hn, Int.natAbs_neg]; rfl
  · rw [decide_eq_false (show ¬ y < 0 by omega)]
    obtain ⟨m, rfl⟩ : ∃ m : Nat, y = (m : Int) := ⟨y.natAbs, by omega⟩
    rw [hn]; rfl
theorem top_ne {n : Nat} (h : n ≠ 0) : 0 < (limbs n).getD ((limbs n).length - 1) 0 := by
  have h1 := limbs_trim (low_limbs n)
  rw [val_limbs] at h1
  have h2 := congrArg List.length h1
  rw [List.length_take] at h2
  have hp : 0 < (limbs n).length := len_pos.2 (by omega)
  have h3 := trimTo_le (limbs n) (limbs n).length
  have h4 := trimTo_last (limbs n) (limbs n).length (by omega)
  rw [show trimTo (limbs n) (limbs n).length = (limbs n).length by omega] at h4
  omega
theorem sgn_le {z : Int} (h : z ≤ 0) : sgn z ≤ 0 := by
  rcases Int.lt_trichotomy z 0 with h1 | h1 | h1
  · rw [sgn_neg h1]; decide
  · rw [h1]; decide
  · omega
theorem sgn_ge {z : Int} (h : 0 ≤ z) : 0 ≤ sgn z := by
  rcases Int.lt_trichotomy z 0 with h1 | h1 | h1
  · omega
  · rw [h1]; decide
  · rw [sgn_pos h1]; decide
theorem one_int (g : Nat) (u : PH) (x : Nat) (e : ElsP u g 0 1 [.int .i64 (x : Int)]) : ListP u (.slice (some ⟨g, 0, none⟩) 1 1) 1 (intsV [x]) := ⟨_, 1, rfl, by simp [intsV], fun j v hj => ⟨g, 0, rfl, e j v hj⟩⟩
theorem intsV_cons (x : Nat) (l : List Nat) : intsV [x] ++ intsV l = intsV (x :: l) := rfl
structure Find (Y R lo hi : Nat) : Prop where
  a : lo ≤ R / Y
  b : R / Y ≤ hi
  c : hi ≤ 999999999
theorem Find.up {Y R lo hi mid : Nat} (h : Find Y R lo hi) (hY : 0 < Y) (hm : Y * mid ≤ R) : Find Y R mid hi := ⟨by rw [Nat.le_div_iff_mul_le hY, Nat.mul_comm]; exact hm, h.b, h.c⟩
theorem Find.down {Y R lo hi mid : Nat} (h : Find Y R lo hi) (hY : 0 < Y) (hm : ¬ Y * mid ≤ R) (h0 : 0 < mid) (hc : mid ≤ hi) : Find Y R lo (mid - 1) := by
  have : R / Y < mid := by rw [Nat.div_lt_iff_lt_mul hY, Nat.mul_comm]; omega
  exact ⟨h.a, by omega, by have := h.c; omega⟩
set_option maxHeartbeats 4000000 in
theorem bigQuo0 {u : PH} {x x' : Value} {y z : Int} (hx : BigP u x y) (hx' : BigP u x' z) (sy : nl y.natAbs ≤ 100000000000) (sz : nl z.natAbs ≤ 100000000000) (hz0 : z ≠ 0) :
    Fn0 Tryz.prog 77 [x, x'] u fun v u' => ∃ a b, v = .tuple #[a, b] ∧ BigP u' a (y.tdiv z) ∧ BigP u' b (y.tmod z) := by
  obtain ⟨b, a, n, c, rfl, hb, hi⟩ := hx.opn
  obtain ⟨b', a', n', c', rfl, hb', hi'⟩ := hx'.opn
  obtain ⟨rfl, _⟩ := hi.len
  obtain ⟨rfl, _⟩ := hi'.len
  have hll := low_limbs y.natAbs
  have sy' : (limbs y.natAbs).length ≤ 100000000000 := sy
  have sz' : (limbs z.natAbs).length ≤ 100000000000 := sz
  have hYp : 0 < z.natAbs := by omega
  have hn1 : 0 < (limbs z.natAbs).length := len_pos.2 hYp
  have hquo : sgnd (!(b == b')) (y.natAbs / z.natAbs) = y.tdiv z := by rw [hb, hb']; exact tdiv_sgnd y z
  have hrem : sgnd b (y.natAbs % z.natAbs) = y.tmod z := by rw [hb]; exact tmod_sgnd y z
  have hvy := val_limbs y.natAbs
  rw [← hvy] at hquo hrem
  generalize limbs y.natAbs = lx at *
  have hY := val_limbs z.natAbs
  have hly := low_limbs z.natAbs
  have htop := top_ne (n := z.natAbs) (by omega)
  generalize z.natAbs = Y at *
  clear hb hb' hx hx' sy sz
  refine Fn0.of Tryz.func77 (by kernel_rfl) (by kernel_rfl) ?_
  refine G.make 3 1 8 (.int .i64 0) lx.length (by kernel_rfl) rfl rfl (by omega) (by omega) (by omega) ?_
  rintro vq m1 hA ⟨aq, rfl⟩
  rw [intsV_zeros] at hA
  refine G.sub (lx.length : Int) 1 ((lx.length : Int) - 1) (by kernel_rfl) rfl (by omega) (by omega) ?_
  refine G.loop (ι := Int × Nat × List Nat × Value) (fun i => [(2, .p 0 0), (3, .p 1 0), (4, .p 2 0), (5, .p 3 0), (6, .v i.2.2.2), (7, .v (.slice (some aq) lx.length lx.length)), (8, .v (.int .i64 i.1))])
    (fun _ => [(0, ⟨42, [.v (.bool b), .v (.slice a lx.length c)]⟩), (1, ⟨42, [.v (.bool b'), .v (.slice a' (limbs Y).length c')]⟩), (2, ⟨42, [.v (.bool false), .v (.slice none 0 0)]⟩), (3, ⟨42, [.v (.bool false), .v (.slice none 0 0)]⟩)])
    (fun i u' m' => (-1 ≤ i.1 ∧ i.1 < lx.length) ∧ QuoSt lx Y (i.1 + 1).toNat i.2.2.1 i.2.1 ∧ IntsP u' i.2.2.2 (limbs i.2.1) ∧ ArrAt PH.mt m' (.slice (some aq) lx.length lx.length) 3 1 (intsV i.2.2.1)) (fun i => (i.1 + 1).toNat) ((lx.length : Int) - 1, 0, List.replicate lx.length 0, .slice none 0 0) (by kernel_rfl) (fun _ => by kernel_rfl) ⟨by kernel_rfl, by kernel_rfl, by kernel_rfl⟩
    ⟨⟨by simp; omega, by simp; omega⟩, by rw [show (((lx.length : Int) - 1) + 1).toNat = lx.length by omega]; exact QuoSt.start _ _, by rw [limbs_zero]; exact ListP.nil _ _ _ _, hA⟩ ?_
  clear hA m1
  rintro J ⟨zi, R, qs, vr⟩ hJ u' m' hle ⟨hzi, hst, hR, hA⟩
  simp only at hzi hst hR hA hJ
  obtain ⟨ar, cr, rfl, hcr⟩ := hR.opn
  by_cases hneg : 0 ≤ zi
  · obtain ⟨k, rfl⟩ := Int.eq_ofNat_of_zero_le hneg
    rw [show ((k : Int) + 1).toNat = k + 1 by omega] at hst
    have hk : k < lx.length := by omega
    have hRY : R < Y := by rw [hst.rest]; exact Nat.mod_lt _ hYp
    have hxk := hll.getD k
    have hstep := hst.step hll hk hYp
    have hdig := quo_digit hRY hxk
    obtain ⟨baq, caq, e⟩ := hA.ptr (by intro e; have := congrArg List.length e; rw [intsV_length, hst.len, List.length_nil] at this; omega)
    simp only [Value.slice.injEq, Option.some.injEq] at e
    obtain ⟨rfl, _, _⟩ := e
    obtain ⟨ba, oa, rfl, ea⟩ := (hi.mono hle).at (j := k) hk
    refine G.geqT (k : Int) 0 (by kernel_rfl) (by omega) ?_
    refine G.addr ba oa lx.length c k 1 (by kernel_rfl) hk ?_
    refine G.loadU none ba (oa + k * 1) (.int .i64 (lx.getD k 0 : Nat)) (by kernel_rfl) (by kernel_rfl) ea ?_
    refine G.buildU 3 1 8 (.int .i64 0) [.int .i64 (lx.getD k 0 : Nat)] (by kernel_rfl) (intsV_ok [lx.getD k 0]) rfl (by omega) (by simp) (by simp) ?_
    intro g u1 l1 e1
    have hRlen : (limbs R).length ≤ (limbs Y).length := val_le_len (by omega)
    refine G.appendV 3 1 8 (.int .i64 0) (intsV [lx.getD k 0]) (intsV (limbs R)) (some ⟨g, 0, none⟩) 1 ar (limbs R).length cr (by kernel_rfl) (by omega) (one_int g u1 _ e1) (intsV_ok _) (hR.mono l1) (intsV_ok _) (by rw [intsV_length, intsV_length]; simp; omega) (by rw [intsV_length, intsV_length]; simp; omega) ?_
    intro v2 u2 l2 h2
    rw [intsV_cons] at h2
    obtain ⟨a2, c2, rfl, hc2⟩ := IntsP.opn h2
    refine G.call0 _ _ (by kernel_rfl) Tryz.call96 (bigTrimB (b := false) (l := lx.getD k 0 :: limbs R) h2 (Low.cons hxk (low_limbs R)) (by simp; omega)) ?_
    intro v3 u3 l3 h3
    rw [show val (lx.getD k 0 :: limbs R) = lx.getD k 0 + 1000000000 * R by simp only [val]; rw [val_limbs]] at h3
    generalize lx.getD k 0 + 1000000000 * R = R' at *
    obtain ⟨b3, a3, n3, c3, rfl, _, _⟩ := h3.opn
    have hR' := h3.lim
    obtain ⟨rfl, hc3⟩ := hR'.len
    have hR'len : (limbs R').length ≤ (limbs Y).length + 1 := by
      have h5 := hdig
      rw [Nat.div_lt_iff_lt_mul hYp] at h5
      refine nl_le_of_lt ?_
      have h6 := lt_pow_nl Y
      rw [Nat.pow_succ]
      have h7 : 1000000000 * Y < 1000000000 * 1000000000 ^ nl Y := Nat.mul_lt_mul_of_pos_left h6 (by omega)
      have h8 : (1000000000 : Nat) ^ (limbs Y).length = 1000000000 ^ nl Y := rfl
      rw [h8, Nat.mul_comm (1000000000 ^ nl Y)]; omega
    have hiy := hi'.mono (((hle.trans l1).trans l2).trans l3)
    refine G.call0 _ _ (by kernel_rfl) Tryz.call98 (bigSize0 hR' hiy (by show (limbs R').length ≤ _; omega) (by show (limbs Y).length ≤ _; omega)) ?_
    rintro v4 u4 l4 rfl
    have hR4 := hR'.mono l4
    have hiy4 := hiy.mono l4
    have hle4 : PH.le u u4 := (((hle.trans l1).trans l2).trans l3).trans l4
    by_cases hge : Y ≤ R'
    · refine G.geqT (sgn ((R' : Int) - Y)) 0 (by kernel_rfl) (sgn_ge (by omega)) ?_
      have hlen2 : (limbs Y).length ≤ (limbs R').length := val_le_len hge
      obtain ⟨rl, hr1, hr2⟩ := top_of R' (limbs Y).length hn1 hR'len hlen2
      obtain ⟨br, orr, rfl, er⟩ := hR4.at (j := (limbs Y).length - 1) (by omega)
      have hr1l := (low_limbs R').getD ((limbs Y).length - 1)
      have hr2l := (low_limbs R').getD (limbs Y).length
      have hy1l := hly.getD ((limbs Y).length - 1)
      obtain ⟨by_, oy, rfl, ey⟩ := hiy4.at (j := (limbs Y).length - 1) (by omega)
      have hYsplit : Y = (limbs Y).getD ((limbs Y).length - 1) 0 * 1000000000 ^ ((limbs Y).length - 1) + val ((limbs Y).take ((limbs Y).length - 1)) := by
        have h5 := val_split (limbs Y) ((limbs Y).length - 1) (by omega)
        rw [hY, drop_getD _ _ (show (limbs Y).length - 1 < (limbs Y).length by omega), List.drop_of_length_le (by omega)] at h5
        simp only [val, Nat.mul_zero, Nat.add_zero] at h5
        rw [Nat.mul_comm]; omega
      have hyl : val ((limbs Y).take ((limbs Y).length - 1)) < 1000000000 ^ ((limbs Y).length - 1) := by
        have := val_lt (hly.take ((limbs Y).length - 1))
        rwa [List.length_take, Nat.min_eq_left (by omega)] at this
      have hest := quo_est hYsplit hyl htop hr1 hr2
      refine G.sub ((limbs Y).length : Int) 1 (((limbs Y).length - 1 : Nat) : Int) (by kernel_rfl) (by omega) (by omega) (by omega) ?_
      refine G.addr br orr (limbs R').length c3 ((limbs Y).length - 1) 1 (by kernel_rfl) (by omega) ?_
      refine G.loadU none br (orr + ((limbs Y).length - 1) * 1) (.int .i64 ((limbs R').getD ((limbs Y).length - 1) 0 : Nat)) (by kernel_rfl) (by kernel_rfl) er ?_
      obtain ⟨top, htp⟩ : ∃ top, top = (limbs R').getD ((limbs Y).length - 1) 0 + (limbs R').getD (limbs Y).length 0 * 1000000000 := ⟨_, rfl⟩
      rw [← htp] at hest
      have hmm : ∀ k : Nat, ((min (999999999 : Int) (k : Int))) = ((min 999999999 k : Nat) : Int) := fun k => by omega
      obtain ⟨h1, hh1⟩ : ∃ h1, h1 = min 999999999 (top / (limbs Y).getD ((limbs Y).length - 1) 0) := ⟨_, rfl⟩
      obtain ⟨l0, hl0⟩ : ∃ l0, l0 = min h1 (top / ((limbs Y).getD ((limbs Y).length - 1) 0 + 1)) := ⟨_, rfl⟩
      have hfind : Find Y R' l0 h1 := ⟨by omega, by omega, by omega⟩
      by_cases hlong : (limbs Y).length < (limbs R').length
      · refine G.gtrT ((limbs R').length : Int) ((limbs Y).length : Int) (by kernel_rfl) (by omega) ?_
        obtain ⟨_, _, e9, er2⟩ := hR4.at (j := (limbs Y).length) hlong
        simp only [Option.some.injEq, Addr.mk.injEq, and_true] at e9
        obtain ⟨rfl, rfl⟩ := e9
        refine G.addr br orr (limbs R').length c3 (limbs Y).length 1 (by kernel_rfl) hlong ?_
        refine G.loadU none br (orr + (limbs Y).length * 1) (.int .i64 ((limbs R').getD (limbs Y).length 0 : Nat)) (by kernel_rfl) (by kernel_rfl) er2 ?_
        refine G.mul ((limbs R').getD (limbs Y).length 0 : Nat) 1000000000 (((limbs R').getD (limbs Y).length 0 * 1000000000 : Nat) : Int) (by kernel_rfl) (by omega) (by omega) (by omega) ?_
        refine G.add ((limbs R').getD ((limbs Y).length - 1) 0 : Nat) (((limbs R').getD (limbs Y).length 0 * 1000000000 : Nat) : Int) (top : Int) (by kernel_rfl) (by omega) (by omega) (by omega) ?_
        obtain ⟨y1, hy1e⟩ : ∃ y1, y1 = (limbs Y).getD ((limbs Y).length - 1) 0 := ⟨_, rfl⟩
        rw [← hy1e] at ey hh1 hl0 htop hy1l
        refine G.sub ((limbs Y).length : Int) 1 (((limbs Y).length - 1 : Nat) : Int) (by kernel_rfl) (by omega) (by omega) (by omega) ?_
        refine G.addr by_ oy (limbs Y).length c' ((limbs Y).length - 1) 1 (by kernel_rfl) (by omega) ?_
        refine G.loadU none by_ (oy + ((limbs Y).length - 1) * 1) (.int .i64 (y1 : Nat)) (by kernel_rfl) (by kernel_rfl) ey ?_
        refine G.quo (top : Int) (y1 : Int) ((top / y1 : Nat) : Int) (by kernel_rfl) (by omega) (by omega) (by omega) (Int.natCast_ediv _ _).symm ?_
        refine G.minI [3, 3] 999999999 ((top / y1 : Nat) : Int) (h1 : Int) (by kernel_rfl) (by rw [hmm, hh1]) ?_
        refine G.sub ((limbs Y).length : Int) 1 (((limbs Y).length - 1 : Nat) : Int) (by kernel_rfl) (by omega) (by omega) (by omega) ?_
        refine G.addr by_ oy (limbs Y).length c' ((limbs Y).length - 1) 1 (by kernel_rfl) (by omega) ?_
        refine G.loadU none by_ (oy + ((limbs Y).length - 1) * 1) (.int .i64 (y1 : Nat)) (by kernel_rfl) (by kernel_rfl) ey ?_
        refine G.add (y1 : Int) 1 ((y1 + 1 : Nat) : Int) (by kernel_rfl) (by omega) (by omega) (by omega) ?_
        refine G.quo (top : Int) ((y1 + 1 : Nat) : Int) ((top / (y1 + 1) : Nat) : Int) (by kernel_rfl) (by omega) (by omega) (by omega) (Int.natCast_ediv _ _).symm ?_
        refine G.minI [3, 3] (h1 : Int) ((top / (y1 + 1) : Nat) : Int) (l0 : Int) (by kernel_rfl) (by rw [hl0]; omega) ?_
        refine G.loop (ι := Nat × Nat) (fun i => [(2, .p 0 0), (3, .p 1 0), (4, .p 2 0), (5, .p 3 0), (6, .v (.slice (some ⟨br, orr, none⟩) (limbs R').length c3)), (7, .v (.slice (some ⟨baq, 0, none⟩) lx.length lx.length)), (8, .v (.int .i64 (k : Int))), (9, .v (.int .i64 (i.1 : Int))), (10, .v (.int .i64 (i.2 : Int)))])
          (fun _ => [(0, ⟨42, [.v (.bool b), .v (.slice (some ⟨ba, oa, none⟩) lx.length c)]⟩), (1, ⟨42, [.v (.bool b'), .v (.slice (some ⟨by_, oy, none⟩) (limbs Y).length c')]⟩), (2, ⟨42, [.v (.bool false), .v (.slice none 0 0)]⟩), (3, ⟨42, [.v (.bool false), .v (.slice none 0 0)]⟩)])
          (fun i _ m' => Find Y R' i.1 i.2 ∧ ArrAt PH.mt m' (.slice (some ⟨baq, 0, none⟩) lx.length lx.length) 3 1 (intsV qs)) (fun i => i.2 - i.1) (l0, h1) (by kernel_rfl) (fun _ => by kernel_rfl) ⟨by kernel_rfl, by kernel_rfl, by kernel_rfl⟩ ⟨hfind, hA⟩ ?_
        clear hfind hA hl0 hh1
        rintro J2 ⟨lo, hi2⟩ hJ2 u5 m' hle5 ⟨hf, hA⟩
        simp only at hf hA hJ2
        have hf1 := hf.a
        have hf2 := hf.b
        have hf3 := hf.c
        by_cases hlt : lo < hi2
        · refine G.lssT (lo : Int) (hi2 : Int) (by kernel_rfl) (by omega) ?_
          refine G.add (lo : Int) (hi2 : Int) ((lo + hi2 : Nat) : Int) (by kernel_rfl) (by omega) (by omega) (by omega) ?_
          refine G.add ((lo + hi2 : Nat) : Int) 1 ((lo + hi2 + 1 : Nat) : Int) (by kernel_rfl) (by omega) (by omega) (by omega) ?_
          obtain ⟨mid, hmid⟩ : ∃ mid, mid = (lo + hi2 + 1) / 2 := ⟨_, rfl⟩
          refine G.quo ((lo + hi2 + 1 : Nat) : Int) 2 (mid : Int) (by kernel_rfl) (by omega) (by omega) (by omega) (by omega) ?_
          refine G.call0 _ _ (by kernel_rfl) Tryz.call123 (bigTimes0 (n := mid) (hiy4.mono hle5) hly (by omega) (by omega)) ?_
          intro v6 u6 l6 h6
          rw [hY] at h6
          obtain ⟨a6, c6, rfl, hc6⟩ := h6.opn
          have hs6 : (limbs (Y * mid)).length ≤ 200000000002 := by
            have h5 := nl_mul Y mid
            have h7 : nl mid ≤ 1 := nl_le_of_lt (by omega)
            have h8 : nl Y = (limbs Y).length := rfl
            have h9 : nl (Y * mid) = (limbs (Y * mid)).length := rfl
            omega
          refine G.call0 _ _ (by kernel_rfl) Tryz.call98 (bigSize0 h6 ((hR4.mono hle5).mono l6) (by show (limbs (Y * mid)).length ≤ _; omega) (by show (limbs R').length ≤ _; omega)) ?_
          rintro v7 u7 l7 rfl
          by_cases hle7 : Y * mid ≤ R'
          · refine G.leqT (sgn (((Y * mid : Nat) : Int) - R')) 0 (by kernel_rfl) (sgn_le (by omega)) ?_
            exact G.back (by kernel_rfl) (hJ2 (mid, hi2) _ _ _ ⟨by kernel_rfl, by kernel_rfl, by kernel_rfl⟩ ((hle5.trans l6).trans l7) ⟨hf.up hYp hle7, hA⟩ (by dsimp only; omega))
          · refine G.leqF (sgn (((Y * mid : Nat) : Int) - R')) 0 (by kernel_rfl) (by rw [sgn_pos (by omega)]; decide) ?_
            refine G.sub (mid : Int) 1 ((mid - 1 : Nat) : Int) (by kernel_rfl) (by omega) (by omega) (by omega) ?_
            exact G.back (by kernel_rfl) (hJ2 (lo, mid - 1) _ _ _ ⟨by kernel_rfl, by kernel_rfl, by kernel_rfl⟩ ((hle5.trans l6).trans l7) ⟨hf.down hYp hle7 (by omega) (by omega), hA⟩ (by dsimp only; omega))
        · obtain rfl : lo = R' / Y := by omega
          refine G.lssF ((R' / Y : Nat) : Int) (hi2 : Int) (by kernel_rfl) (by omega) ?_
          refine G.addr baq 0 lx.length lx.length k 1 (by kernel_rfl) hk ?_
          refine G.storeA 1 PH.mt _ baq lx.length lx.length k (.int .i64 ((R' / Y : Nat) : Int)) (by kernel_rfl) hA (by rw [intsV_length, hst.len]; exact hk) rfl rfl ?_
          intro m2 hA2
          rw [intsV_set] at hA2
          by_cases hq0 : 0 < R' / Y
          · refine G.gtrT ((R' / Y : Nat) : Int) 0 (by kernel_rfl) (by omega) ?_
            refine G.call0 _ _ (by kernel_rfl) Tryz.call123 (bigTimes0 (n := R' / Y) (hiy4.mono hle5) hly (by omega) (by omega)) ?_
            intro v6 u6 l6 h6
            rw [hY] at h6
            have hmul : Y * (R' / Y) ≤ R' := Nat.mul_div_le R' Y
            obtain ⟨a6, c6, rfl, hc6⟩ := h6.opn
            refine G.call0 _ _ (by kernel_rfl) Tryz.call99 (bigMinus0 ((hR4.mono hle5).mono l6) h6 (low_limbs _) (low_limbs _) (by omega) (val_le_len hmul) (by rw [val_limbs, val_limbs]; exact hmul)) ?_
            rintro v7 u7 l7 ⟨l, g1, g2, g3, g4⟩
            obtain ⟨a7, c7, rfl, hc7⟩ := g1.opn
            refine G.call0 _ _ (by kernel_rfl) Tryz.call96 (bigTrimB (b := false) g1 g2 (by omega)) ?_
            intro v8 u8 l8 h8
            rw [g3, val_limbs, val_limbs, show R' - Y * (R' / Y) = R' % Y by have := Nat.div_add_mod R' Y; omega] at h8
            obtain ⟨b8, a8, n8, c8, rfl, _, _⟩ := h8.opn
            refine G.sub (k : Int) 1 ((k : Int) - 1) (by kernel_rfl) rfl (by omega) (by omega) ?_
            refine G.back (by kernel_rfl) (hJ ((k : Int) - 1, R' % Y, qs.set k (R' / Y), .slice a8 n8 c8) _ _ _ ⟨by kernel_rfl, by kernel_rfl, by kernel_rfl⟩ ((((hle4.trans hle5).trans l6).trans l7).trans l8) ⟨⟨by dsimp only; omega, by dsimp only; omega⟩, ?_, h8.lim, hA2⟩ (by dsimp only; omega))
            rw [show (((k : Int) - 1) + 1).toNat = k by omega]; exact hstep
          · refine G.gtrF ((R' / Y : Nat) : Int) 0 (by kernel_rfl) (by omega) ?_
            refine G.sub (k : Int) 1 ((k : Int) - 1) (by kernel_rfl) rfl (by omega) (by omega) ?_
            have hm0 : R' % Y = R' := by have := Nat.div_add_mod R' Y; rw [show R' / Y = 0 by omega, Nat.mul_zero] at this; omega
            rw [hm0] at hstep
            refine G.back (by kernel_rfl) (hJ ((k : Int) - 1, R', qs.set k (R' / Y), .slice (some ⟨br, orr, none⟩) (limbs R').length c3) _ _ _ ⟨by kernel_rfl, by kernel_rfl, by kernel_rfl⟩ (hle4.trans hle5) ⟨⟨by dsimp only; omega, by dsimp only; omega⟩, ?_, hR4.mono hle5, hA2⟩ (by dsimp only; omega))
            rw [show (((k : Int) - 1) + 1).toNat = k by omega]; exact hstep
      · refine G.gtrF ((limbs R').length : Int) ((limbs Y).length : Int) (by kernel_rfl) (by omega) ?_
        have h0 := getD_past (l := limbs R') (k := (limbs Y).length) (by omega)
        rw [h0, Nat.zero_mul, Nat.add_zero] at htp
        rw [← htp]
        obtain ⟨y1, hy1e⟩ : ∃ y1, y1 = (limbs Y).getD ((limbs Y).length - 1) 0 := ⟨_, rfl⟩
        rw [← hy1e] at ey hh1 hl0 htop hy1l
        refine G.sub ((limbs Y).length : Int) 1 (((limbs Y).length - 1 : Nat) : Int) (by kernel_rfl) (by omega) (by omega) (by omega) ?_
        refine G.addr by_ oy (limbs Y).length c' ((limbs Y).length - 1) 1 (by kernel_rfl) (by omega) ?_
        refine G.loadU none by_ (oy + ((limbs Y).length - 1) * 1) (.int .i64 (y1 : Nat)) (by kernel_rfl) (by kernel_rfl) ey ?_
        refine G.quo (top : Int) (y1 : Int) ((top / y1 : Nat) : Int) (by kernel_rfl) (by omega) (by omega) (by omega) (Int.natCast_ediv _ _).symm ?_
        refine G.minI [3, 3] 999999999 ((top / y1 : Nat) : Int) (h1 : Int) (by kernel_rfl) (by rw [hmm, hh1]) ?_
        refine G.sub ((limbs Y).length : Int) 1 (((limbs Y).length - 1 : Nat) : Int) (by kernel_rfl) (by omega) (by omega) (by omega) ?_
        refine G.addr by_ oy (limbs Y).length c' ((limbs Y).length - 1) 1 (by kernel_rfl) (by omega) ?_
        refine G.loadU none by_ (oy + ((limbs Y).length - 1) * 1) (.int .i64 (y1 : Nat)) (by kernel_rfl) (by kernel_rfl) ey ?_
        refine G.add (y1 : Int) 1 ((y1 + 1 : Nat) : Int) (by kernel_rfl) (by omega) (by omega) (by omega) ?_
        refine G.quo (top : Int) ((y1 + 1 : Nat) : Int) ((top / (y1 + 1) : Nat) : Int) (by kernel_rfl) (by omega) (by omega) (by omega) (Int.natCast_ediv _ _).symm ?_
        refine G.minI [3, 3] (h1 : Int) ((top / (y1 + 1) : Nat) : Int) (l0 : Int) (by kernel_rfl) (by rw [hl0]; omega) ?_
        refine G.loop (ι := Nat × Nat) (fun i => [(2, .p 0 0), (3, .p 1 0), (4, .p 2 0), (5, .p 3 0), (6, .v (.slice (some ⟨br, orr, none⟩) (limbs R').length c3)), (7, .v (.slice (some ⟨baq, 0, none⟩) lx.length lx.length)), (8, .v (.int .i64 (k : Int))), (9, .v (.int .i64 (i.1 : Int))), (10, .v (.int .i64 (i.2 : Int)))])
          (fun _ => [(0, ⟨42, [.v (.bool b), .v (.slice (some ⟨ba, oa, none⟩) lx.length c)]⟩), (1, ⟨42, [.v (.bool b'), .v (.slice (some ⟨by_, oy, none⟩) (limbs Y).length c')]⟩), (2, ⟨42, [.v (.bool false), .v (.slice none 0 0)]⟩), (3, ⟨42, [.v (.bool false), .v (.slice none 0 0)]⟩)])
          (fun i _ m' => Find Y R' i.1 i.2 ∧ ArrAt PH.mt m' (.slice (some ⟨baq, 0, none⟩) lx.length lx.length) 3 1 (intsV qs)) (fun i => i.2 - i.1) (l0, h1) (by kernel_rfl) (fun _ => by kernel_rfl) ⟨by kernel_rfl, by kernel_rfl, by kernel_rfl⟩ ⟨hfind, hA⟩ ?_
        clear hfind hA hl0 hh1
        rintro J2 ⟨lo, hi2⟩ hJ2 u5 m' hle5 ⟨hf, hA⟩
        simp only at hf hA hJ2
        have hf1 := hf.a
        have hf2 := hf.b
        have hf3 := hf.c
        by_cases hlt : lo < hi2
        · refine G.lssT (lo : Int) (hi2 : Int) (by kernel_rfl) (by omega) ?_
          refine G.add (lo : Int) (hi2 : Int) ((lo + hi2 : Nat) : Int) (by kernel_rfl) (by omega) (by omega) (by omega) ?_
          refine G.add ((lo + hi2 : Nat) : Int) 1 ((lo + hi2 + 1 : Nat) : Int) (by kernel_rfl) (by omega) (by omega) (by omega) ?_
          obtain ⟨mid, hmid⟩ : ∃ mid, mid = (lo + hi2 + 1) / 2 := ⟨_, rfl⟩
          refine G.quo ((lo + hi2 + 1 : Nat) : Int) 2 (mid : Int) (by kernel_rfl) (by omega) (by omega) (by omega) (by omega) ?_
          refine G.call0 _ _ (by kernel_rfl) Tryz.call123 (bigTimes0 (n := mid) (hiy4.mono hle5) hly (by omega) (by omega)) ?_
          intro v6 u6 l6 h6
          rw [hY] at h6
          obtain ⟨a6, c6, rfl, hc6⟩ := h6.opn
          have hs6 : (limbs (Y * mid)).length ≤ 200000000002 := by
            have h5 := nl_mul Y mid
            have h7 : nl mid ≤ 1 := nl_le_of_lt (by omega)
            have h8 : nl Y = (limbs Y).length := rfl
            have h9 : nl (Y * mid) = (limbs (Y * mid)).length := rfl
            omega
          refine G.call0 _ _ (by kernel_rfl) Tryz.call98 (bigSize0 h6 ((hR4.mono hle5).mono l6) (by show (limbs (Y * mid)).length ≤ _; omega) (by show (limbs R').length ≤ _; omega)) ?_
          rintro v7 u7 l7 rfl
          by_cases hle7 : Y * mid ≤ R'
          · refine G.leqT (sgn (((Y * mid : Nat) : Int) - R')) 0 (by kernel_rfl) (sgn_le (by omega)) ?_
            exact G.back (by kernel_rfl) (hJ2 (mid, hi2) _ _ _ ⟨by kernel_rfl, by kernel_rfl, by kernel_rfl⟩ ((hle5.trans l6).trans l7) ⟨hf.up hYp hle7, hA⟩ (by dsimp only; omega))
          · refine G.leqF (sgn (((Y * mid : Nat) : Int) - R')) 0 (by kernel_rfl) (by rw [sgn_pos (by omega)]; decide) ?_
            refine G.sub (mid : Int) 1 ((mid - 1 : Nat) : Int) (by kernel_rfl) (by omega) (by omega) (by omega) ?_
            exact G.back (by kernel_rfl) (hJ2 (lo, mid - 1) _ _ _ ⟨by kernel_rfl, by kernel_rfl, by kernel_rfl⟩ ((hle5.trans l6).trans l7) ⟨hf.down hYp hle7 (by omega) (by omega), hA⟩ (by dsimp only; omega))
        · obtain rfl : lo = R' / Y := by omega
          refine G.lssF ((R' / Y : Nat) : Int) (hi2 : Int) (by kernel_rfl) (by omega) ?_
          refine G.addr baq 0 lx.length lx.length k 1 (by kernel_rfl) hk ?_
          refine G.storeA 1 PH.mt _ baq lx.length lx.length k (.int .i64 ((R' / Y : Nat) : Int)) (by kernel_rfl) hA (by rw [intsV_length, hst.len]; exact hk) rfl rfl ?_
          intro m2 hA2
          rw [intsV_set] at hA2
          by_cases hq0 : 0 < R' / Y
          · refine G.gtrT ((R' / Y : Nat) : Int) 0 (by kernel_rfl) (by omega) ?_
            refine G.call0 _ _ (by kernel_rfl) Tryz.call123 (bigTimes0 (n := R' / Y) (hiy4.mono hle5) hly (by omega) (by omega)) ?_
            intro v6 u6 l6 h6
            rw [hY] at h6
            have hmul : Y * (R' / Y) ≤ R' := Nat.mul_div_le R' Y
            obtain ⟨a6, c6, rfl, hc6⟩ := h6.opn
            refine G.call0 _ _ (by kernel_rfl) Tryz.call99 (bigMinus0 ((hR4.mono hle5).mono l6) h6 (low_limbs _) (low_limbs _) (by omega) (val_le_len hmul) (by rw [val_limbs, val_limbs]; exact hmul)) ?_
            rintro v7 u7 l7 ⟨l, g1, g2, g3, g4⟩
            obtain ⟨a7, c7, rfl, hc7⟩ := g1.opn
            refine G.call0 _ _ (by kernel_rfl) Tryz.call96 (bigTrimB (b := false) g1 g2 (by omega)) ?_
            intro v8 u8 l8 h8
            rw [g3, val_limbs, val_limbs, show R' - Y * (R' / Y) = R' % Y by have := Nat.div_add_mod R' Y; omega] at h8
            obtain ⟨b8, a8, n8, c8, rfl, _, _⟩ := h8.opn
            refine G.sub (k : Int) 1 ((k : Int) - 1) (by kernel_rfl) rfl (by omega) (by omega) ?_
            refine G.back (by kernel_rfl) (hJ ((k : Int) - 1, R' % Y, qs.set k (R' / Y), .slice a8 n8 c8) _ _ _ ⟨by kernel_rfl, by kernel_rfl, by kernel_rfl⟩ ((((hle4.trans hle5).trans l6).trans l7).trans l8) ⟨⟨by dsimp only; omega, by dsimp only; omega⟩, ?_, h8.lim, hA2⟩ (by dsimp only; omega))
            rw [show (((k : Int) - 1) + 1).toNat = k by omega]; exact hstep
          · refine G.gtrF ((R' / Y : Nat) : Int) 0 (by kernel_rfl) (by omega) ?_
            refine G.sub (k : Int) 1 ((k : Int) - 1) (by kernel_rfl) rfl (by omega) (by omega) ?_
            have hm0 : R' % Y = R' := by have := Nat.div_add_mod R' Y; rw [show R' / Y = 0 by omega, Nat.mul_zero] at this; omega
            rw [hm0] at hstep
            refine G.back (by kernel_rfl) (hJ ((k : Int) - 1, R', qs.set k (R' / Y), .slice (some ⟨br, orr, none⟩) (limbs R').length c3) _ _ _ ⟨by kernel_rfl, by kernel_rfl, by kernel_rfl⟩ (hle4.trans hle5) ⟨⟨by dsimp only; omega, by dsimp only; omega⟩, ?_, hR4.mono hle5, hA2⟩ (by dsimp only; omega))
            rw [show (((k : Int) - 1) + 1).toNat = k by omega]; exact hstep
    · refine G.geqF (sgn ((R' : Int) - Y)) 0 (by kernel_rfl) (by rw [sgn_neg (by omega)]; decide) ?_
      obtain ⟨l0, hl0⟩ : ∃ l0 : Nat, l0 = 0 := ⟨_, rfl⟩
      obtain ⟨h1, hh1⟩ : ∃ h1 : Nat, h1 = 0 := ⟨_, rfl⟩
      have hfind : Find Y R' 0 0 := by
        have : R' / Y = 0 := Nat.div_eq_of_lt (by omega)
        exact ⟨by omega, by omega, by omega⟩
      refine G.loop (ι := Nat × Nat) (fun i => [(2, .p 0 0), (3, .p 1 0), (4, .p 2 0), (5, .p 3 0), (6, .v (.slice a3 (limbs R').length c3)), (7, .v (.slice (some ⟨baq, 0, none⟩) lx.length lx.length)), (8, .v (.int .i64 (k : Int))), (9, .v (.int .i64 (i.1 : Int))), (10, .v (.int .i64 (i.2 : Int)))])
        (fun _ => [(0, ⟨42, [.v (.bool b), .v (.slice (some ⟨ba, oa, none⟩) lx.length c)]⟩), (1, ⟨42, [.v (.bool b'), .v (.slice a' (limbs Y).length c')]⟩), (2, ⟨42, [.v (.bool false), .v (.slice none 0 0)]⟩), (3, ⟨42, [.v (.bool false), .v (.slice none 0 0)]⟩)])
        (fun i _ m' => Find Y R' i.1 i.2 ∧ ArrAt PH.mt m' (.slice (some ⟨baq, 0, none⟩) lx.length lx.length) 3 1 (intsV qs)) (fun i => i.2 - i.1) (0, 0) (by kernel_rfl) (fun _ => by kernel_rfl) ⟨by kernel_rfl, by kernel_rfl, by kernel_rfl⟩ ⟨hfind, hA⟩ ?_
      clear hfind hA hl0 hh1
      rintro J2 ⟨lo, hi2⟩ hJ2 u5 m' hle5 ⟨hf, hA⟩
      simp only at hf hA hJ2
      have hf1 := hf.a
      have hf2 := hf.b
      have hf3 := hf.c
      by_cases hlt : lo < hi2
      · refine G.lssT (lo : Int) (hi2 : Int) (by kernel_rfl) (by omega) ?_
        refine G.add (lo : Int) (hi2 : Int) ((lo + hi2 : Nat) : Int) (by kernel_rfl) (by omega) (by omega) (by omega) ?_
        refine G.add ((lo + hi2 : Nat) : Int) 1 ((lo + hi2 + 1 : Nat) : Int) (by kernel_rfl) (by omega) (by omega) (by omega) ?_
        obtain ⟨mid, hmid⟩ : ∃ mid, mid = (lo + hi2 + 1) / 2 := ⟨_, rfl⟩
        refine G.quo ((lo + hi2 + 1 : Nat) : Int) 2 (mid : Int) (by kernel_rfl) (by omega) (by omega) (by omega) (by omega) ?_
        refine G.call0 _ _ (by kernel_rfl) Tryz.call123 (bigTimes0 (n := mid) (hiy4.mono hle5) hly (by omega) (by omega)) ?_
        intro v6 u6 l6 h6
        rw [hY] at h6
        obtain ⟨a6, c6, rfl, hc6⟩ := h6.opn
        have hs6 : (limbs (Y * mid)).length ≤ 200000000002 := by
          have h5 := nl_mul Y mid
          have h7 : nl mid ≤ 1 := nl_le_of_lt (by omega)
          have h8 : nl Y = (limbs Y).length := rfl
          have h9 : nl (Y * mid) = (limbs (Y * mid)).length := rfl
          omega
        refine G.call0 _ _ (by kernel_rfl) Tryz.call98 (bigSize0 h6 ((hR4.mono hle5).mono l6) (by show (limbs (Y * mid)).length ≤ _; omega) (by show (limbs R').length ≤ _; omega)) ?_
        rintro v7 u7 l7 rfl
        by_cases hle7 : Y * mid ≤ R'
        · refine G.leqT (sgn (((Y * mid : Nat) : Int) - R')) 0 (by kernel_rfl) (sgn_le (by omega)) ?_
          exact G.back (by kernel_rfl) (hJ2 (mid, hi2) _ _ _ ⟨by kernel_rfl, by kernel_rfl, by kernel_rfl⟩ ((hle5.trans l6).trans l7) ⟨hf.up hYp hle7, hA⟩ (by dsimp only; omega))
        · refine G.leqF (sgn (((Y * mid : Nat) : Int) - R')) 0 (by kernel_rfl) (by rw [sgn_pos (by omega)]; decide) ?_
          refine G.sub (mid : Int) 1 ((mid - 1 : Nat) : Int) (by kernel_rfl) (by omega) (by omega) (by omega) ?_
          exact G.back (by kernel_rfl) (hJ2 (lo, mid - 1) _ _ _ ⟨by kernel_rfl, by kernel_rfl, by kernel_rfl⟩ ((hle5.trans l6).trans l7) ⟨hf.down hYp hle7 (by omega) (by omega), hA⟩ (by dsimp only; omega))
      · obtain rfl : lo = R' / Y := by omega
        refine G.lssF ((R' / Y : Nat) : Int) (hi2 : Int) (by kernel_rfl) (by omega) ?_
        refine G.addr baq 0 lx.length lx.length k 1 (by kernel_rfl) hk ?_
        refine G.storeA 1 PH.mt _ baq lx.length lx.length k (.int .i64 ((R' / Y : Nat) : Int)) (by kernel_rfl) hA (by rw [intsV_length, hst.len]; exact hk) rfl rfl ?_
        intro m2 hA2
        rw [intsV_set] at hA2
        by_cases hq0 : 0 < R' / Y
        · refine G.gtrT ((R' / Y : Nat) : Int) 0 (by kernel_rfl) (by omega) ?_
          refine G.call0 _ _ (by kernel_rfl) Tryz.call123 (bigTimes0 (n := R' / Y) (hiy4.mono hle5) hly (by omega) (by omega)) ?_
          intro v6 u6 l6 h6
          rw [hY] at h6
          have hmul : Y * (R' / Y) ≤ R' := Nat.mul_div_le R' Y
          obtain ⟨a6, c6, rfl, hc6⟩ := h6.opn
          refine G.call0 _ _ (by kernel_rfl) Tryz.call99 (bigMinus0 ((hR4.mono hle5).mono l6) h6 (low_limbs _) (low_limbs _) (by omega) (val_le_len hmul) (by rw [val_limbs, val_limbs]; exact hmul)) ?_
          rintro v7 u7 l7 ⟨l, g1, g2, g3, g4⟩
          obtain ⟨a7, c7, rfl, hc7⟩ := g1.opn
          refine G.call0 _ _ (by kernel_rfl) Tryz.call96 (bigTrimB (b := false) g1 g2 (by omega)) ?_
          intro v8 u8 l8 h8
          rw [g3, val_limbs, val_limbs, show R' - Y * (R' / Y) = R' % Y by have := Nat.div_add_mod R' Y; omega] at h8
          obtain ⟨b8, a8, n8, c8, rfl, _, _⟩ := h8.opn
          refine G.sub (k : Int) 1 ((k : Int) - 1) (by kernel_rfl) rfl (by omega) (by omega) ?_
          refine G.back (by kernel_rfl) (hJ ((k : Int) - 1, R' % Y, qs.set k (R' / Y), .slice a8 n8 c8) _ _ _ ⟨by kernel_rfl, by kernel_rfl, by kernel_rfl⟩ ((((hle4.trans hle5).trans l6).trans l7).trans l8) ⟨⟨by dsimp only; omega, by dsimp only; omega⟩, ?_, h8.lim, hA2⟩ (by dsimp only; omega))
          rw [show (((k : Int) - 1) + 1).toNat = k by omega]; exact hstep
        · refine G.gtrF ((R' / Y : Nat) : Int) 0 (by kernel_rfl) (by omega) ?_
          refine G.sub (k : Int) 1 ((k : Int) - 1) (by kernel_rfl) rfl (by omega) (by omega) ?_
          have hm0 : R' % Y = R' := by have := Nat.div_add_mod R' Y; rw [show R' / Y = 0 by omega, Nat.mul_zero] at this; omega
          rw [hm0] at hstep
          refine G.back (by kernel_rfl) (hJ ((k : Int) - 1, R', qs.set k (R' / Y), .slice a3 (limbs R').length c3) _ _ _ ⟨by kernel_rfl, by kernel_rfl, by kernel_rfl⟩ (hle4.trans hle5) ⟨⟨by dsimp only; omega, by dsimp only; omega⟩, ?_, hR4.mono hle5, hA2⟩ (by dsimp only; omega))
          rw [show (((k : Int) - 1) + 1).toNat = k by omega]; exact hstep
  · obtain rfl : zi = -1 := by omega
    refine G.geqF (-1) 0 (by kernel_rfl) (by omega) ?_
    refine G.give PH.mt (intsV qs) _ (by kernel_rfl) hA (fun _ => .inl rfl) ?_
    intro u1 l1 hL
    have hst : QuoSt lx Y 0 qs R := hst
    have hq := hst.quo
    have hr := hst.rest
    rw [List.drop_zero, List.drop_zero] at hq
    rw [List.drop_zero] at hr
    have hRY : R < Y := by rw [hr]; exact Nat.mod_lt _ hYp
    have hRlen : (limbs R).length ≤ (limbs Y).length := val_le_len (by omega)
    refine G.neB b b' (by kernel_rfl) ?_
    refine G.call0 _ _ (by kernel_rfl) Tryz.call96 (bigTrimB (b := !(b == b')) hL hst.low (by rw [hst.len]; omega)) ?_
    intro v2 u2 l2 h2
    rw [hq, hquo] at h2
    obtain ⟨b2, a2, n2, c2, rfl, _, _⟩ := h2.opn
    refine G.call0 _ _ (by kernel_rfl) Tryz.call96 (bigTrimB (b := b) (hR.mono (l1.trans l2)) (low_limbs R) (by omega)) ?_
    intro v3 u3 l3 h3
    rw [val_limbs, hr, hrem] at h3
    obtain ⟨b3, a3, n3, c3, rfl, _, _⟩ := h3.opn
    exact G.ret (.tuple #[.agg #[.bool b2, .slice a2 n2 c2], .agg #[.bool b3, .slice a3 n3 c3]]) (by kernel_rfl) ⟨rfl, _, _, rfl, h2.mono l3, h3⟩
end Go.Proofs.YtldokelpolbnnaaGreatDoor
end
section
set_option linter.unusedSectionVars false
set_option linter.unusedVariables false
namespace Go.Proofs.YtldokelpolbnnaaGreatDoor
open Go.RowKit
section rules
variable {P : Program} [Mixed P] {fn : Func} {Post : Spec} {st : List KI × S} {u m : PH}
theorem tdiv_bd {x y z : Int} (hx : -9223372036854775807 ≤ x) (hx2 : x ≤ 9223372036854775807) (hy : 0 < y) (hz : x.tdiv y = z) : -9223372036854775808 ≤ z ∧ z ≤ 9223372036854775807 := by
  rw [← hz]
  rcases Int.lt_or_le x 0 with h | h
  · obtain ⟨k, rfl⟩ : ∃ k : Int, x = -k := ⟨-x, by omega⟩
    rw [Int.neg_tdiv, Int.tdiv_eq_ediv_of_nonneg (by omega)]
    have h1 := Int.ediv_nonneg (a := k) (b := y) (by omega) (by omega)
    have h2 := Int.ediv_le_self (a := k) y (by omega)
    omega
  · rw [Int.tdiv_eq_ediv_of_nonneg h]
    have h1 := Int.ediv_nonneg (a := x) (b := y) h (by omega)
    have h2 := Int.ediv_le_self (a := x) y h
    omega
theorem G.quoT (x y z : Int) (h : stopV P (adv P st) = .bin .quo (.int .i64 x) (.int .i64 y)) (hx : -9223372036854775807 ≤ x) (hx2 : x ≤ 9223372036854775807) (hy : 0 < y) (hz : x.tdiv y = z)
    (k : G P fn Post (nx (adv P st) (.int .i64 z)) u m) : G P fn Post st u m := by
  refine G.bin _ h guard_int (fun t w => ?_) k
  have hb := tdiv_bd hx hx2 hy hz
  have h4 : ¬ y = 0 := by omega
  simp [binOp, Op.intDiv, h4, hz, i64_wrap hb.1 hb.2]
theorem G.remT (x y z : Int) (h : stopV P (adv P st) = .bin .rem (.int .i64 x) (.int .i64 y)) (hy : 0 < y) (hz : x.tmod y = z) (h1 : -9223372036854775808 ≤ z) (h2 : z ≤ 9223372036854775807)
    (k : G P fn Post (nx (adv P st) (.int .i64 z)) u m) : G P fn Post st u m := by
  refine G.bin _ h guard_int (fun t w => ?_) k
  have h4 : ¬ y = 0 := by omega
  simp [binOp, Op.intDiv, h4, hz, i64_wrap h1 h2]
end rules
theorem BigP.nonneg {u : PH} {v : Value} {k : Nat} (h : BigP u v (k : Int)) : ∃ a n c, v = .agg #[.bool false, .slice a n c] ∧ IntsP u (.slice a n c) (limbs k) := by
  obtain ⟨a, n, c, h1, h2⟩ := h
  rw [decide_eq_false (by omega)] at h1
  exact ⟨a, n, c, h1, h2⟩
set_option maxHeartbeats 1000000 in
theorem bigGcd0 {u : PH} {x x' : Value} {y z : Int} (hx : BigP u x y) (hx' : BigP u x' z) (sy : nl y.natAbs ≤ 100000000000) (sz : nl z.natAbs ≤ 100000000000) :
    Fn0 Tryz.prog 76 [x, x'] u fun v u' => BigP u' v (Nat.gcd y.natAbs z.natAbs : Nat) := by
  obtain ⟨b, a, n, c, rfl, hb, hi⟩ := hx.opn
  obtain ⟨b', a', n', c', rfl, hb', hi'⟩ := hx'.opn
  refine Fn0.of Tryz.func76 (by kernel_rfl) (by kernel_rfl) ?_
  refine G.loop (ι := (Nat × Nat) × (Option Addr × Nat × Nat) × (Option Addr × Nat × Nat)) (fun _ => [(2, .p 0 0), (3, .p 1 0), (4, .p 2 0)])
    (fun i => [(0, ⟨42, [.v (.bool false), .v (.slice i.2.1.1 i.2.1.2.1 i.2.1.2.2)]⟩), (1, ⟨42, [.v (.bool false), .v (.slice i.2.2.1 i.2.2.2.1 i.2.2.2.2)]⟩), (2, ⟨42, [.v (.bool false), .v (.slice none 0 0)]⟩)])
    (fun i u' m' => (Nat.gcd i.1.1 i.1.2 = Nat.gcd y.natAbs z.natAbs ∧ nl i.1.1 ≤ 100000000000 ∧ nl i.1.2 ≤ 100000000000) ∧ IntsP u' (.slice i.2.1.1 i.2.1.2.1 i.2.1.2.2) (limbs i.1.1) ∧ IntsP u' (.slice i.2.2.1 i.2.2.2.1 i.2.2.2.2) (limbs i.1.2) ∧ m' = PH.mt) (fun i => i.1.2)
    ((y.natAbs, z.natAbs), (a, n, c), (a', n', c')) (by kernel_rfl) (fun _ => by kernel_rfl) ⟨by kernel_rfl, by kernel_rfl, by kernel_rfl⟩ ⟨⟨rfl, sy, sz⟩, hi, hi', rfl⟩ ?_
  clear hi hi' hx hx'
  rintro J ⟨⟨p, q⟩, ⟨a, n, c⟩, ⟨a', n', c'⟩⟩ hJ u' m' hle ⟨⟨hg, sp, sq⟩, hi, hi', rfl⟩
  simp only at hg sp sq hi hi' hJ
  obtain ⟨rfl, _⟩ := hi.len
  obtain ⟨rfl, _⟩ := hi'.len
  have sp' : (limbs p).length ≤ 100000000000 := sp
  have sq' : (limbs q).length ≤ 100000000000 := sq
  by_cases h0 : 0 < (limbs q).length
  · have hq := len_pos.1 h0
    refine G.gtrT ((limbs q).length : Int) 0 (by kernel_rfl) (by omega) ?_
    have hP : BigP u' (.agg #[.bool false, .slice a (limbs p).length c]) (p : Int) := ⟨_, _, _, by rw [decide_eq_false (by omega)], hi⟩
    have hQ : BigP u' (.agg #[.bool false, .slice a' (limbs q).length c']) (q : Int) := ⟨_, _, _, by rw [decide_eq_false (by omega)], hi'⟩
    refine G.call0 _ _ (by kernel_rfl) Tryz.call77 (bigQuo0 hP hQ sp sq (by omega)) ?_
    rintro v1 u1 l1 ⟨va, vb, rfl, h1, h2⟩
    rw [tmod_nat] at h2
    obtain ⟨b1, a1, n1, c1, rfl, _, _⟩ := h1.opn
    obtain ⟨a2, n2, c2, rfl, h3⟩ := h2.nonneg
    exact G.back (by kernel_rfl) (hJ ((q, p % q), (a', (limbs q).length, c'), (a2, n2, c2)) _ _ _ ⟨by kernel_rfl, by kernel_rfl, by kernel_rfl⟩ (hle.trans l1) ⟨⟨by dsimp only; rw [Nat.gcd_comm q, ← Nat.gcd_rec, Nat.gcd_comm]; exact hg, sq, Nat.le_trans (nl_mono (Nat.le_of_lt (Nat.mod_lt _ hq))) sq⟩, hi'.mono l1, h3, rfl⟩ (Nat.mod_lt _ hq))
  · have hq : q = 0 := by
      rcases Nat.eq_zero_or_pos q with h | h
      · exact h
      · exact absurd (len_pos.2 h) h0
    subst hq
    refine G.gtrF ((limbs 0).length : Int) 0 (by kernel_rfl) (by omega) ?_
    rw [Nat.gcd_zero_right] at hg
    exact G.ret (.agg #[.bool false, .slice a (limbs p).length c]) (by kernel_rfl) ⟨rfl, by rw [← hg]; exact ⟨_, _, _, by rw [decide_eq_false (by omega)], hi⟩⟩
structure OfSt (n k : Nat) (ys : List Nat) : Prop where
  low : Low ys
  sum : n = val ys + 1000000000 ^ ys.length * k
  top : ys ≠ [] → k = 0 → 0 < ys.getD (ys.length - 1) 0
theorem OfSt.start (n : Nat) : OfSt n n [] := ⟨Low.nil, by simp [val], fun h => absurd rfl h⟩
theorem OfSt.step {n k : Nat} {ys : List Nat} (h : OfSt n k ys) (hk : k ≠ 0) : OfSt n (k / 1000000000) (ys ++ [k % 1000000000]) := by
  refine ⟨h.low.append (Low.cons (by omega) Low.nil), ?_, fun _ h0 => ?_⟩
  · have := h.sum
    rw [val_snoc, List.length_append, List.length_singleton, Nat.pow_succ, Nat.add_assoc, carry_split]; exact this
  · rw [List.length_append, List.length_singleton, Nat.add_sub_cancel, List.getD_eq_getElem?_getD, List.getElem?_append_right (Nat.le_refl _)]
    simp; omega
theorem trim_top {l : List Nat} (h : l = [] ∨ 0 < l.getD (l.length - 1) 0) : trimTo l l.length = l.length := by
  rcases h with rfl | h
  · rfl
  · cases hl : l.length with
    | zero => rfl
    | succ n => rw [hl] at h; simp only [Nat.add_sub_cancel] at h; simp only [trimTo]; rw [if_neg (by omega)]
theorem OfSt.done {n : Nat} {ys : List Nat} (h : OfSt n 0 ys) : ys = limbs n := by
  have hs := h.sum
  rw [Nat.mul_zero, Nat.add_zero] at hs
  rw [hs, limbs_trim h.low, trim_top, List.take_length]
  by_cases he : ys = []
  · exact .inl he
  · exact .inr (h.top he rfl)
theorem sgnd_tmod (b : Bool) (k : Nat) : (sgnd b k).tmod 1000000000 = sgnd b (k % 1000000000) := by
  unfold sgnd; cases b
  · exact tmod_nat k 1000000000
  · show (-(k : Int)).tmod 1000000000 = -((k % 1000000000 : Nat) : Int)
    rw [Int.neg_tmod]; exact congrArg _ (tmod_nat k 1000000000)
theorem sgnd_tdiv (b : Bool) (k : Nat) : (sgnd b k).tdiv 1000000000 = sgnd b (k / 1000000000) := by
  unfold sgnd; cases b
  · exact tdiv_nat k 1000000000
  · show (-(k : Int)).tdiv 1000000000 = -((k / 1000000000 : Nat) : Int)
    rw [Int.neg_tdiv]; exact congrArg _ (tdiv_nat k 1000000000)
set_option maxHeartbeats 1000000 in
theorem bigOf0 {u : PH} {n : Int} (h1 : -9223372036854775807 ≤ n) (h2 : n ≤ 9223372036854775807) :
    Fn0 Tryz.prog 38 [.int .i64 n] u fun v u' => BigP u' v n := by
  refine Fn0.of Tryz.func38 (by kernel_rfl) (by kernel_rfl) ?_
  have key : ∀ b : Bool, b = decide (n < 0) → G Tryz.prog Tryz.f38 ⟨fun v u' m' => m' = PH.mt ∧ BigP u' v n, PH.mt⟩ (nx (adv Tryz.prog (st0 Tryz.f38 [.int .i64 n])) (.bool b)) u PH.mt := by
    intro b hb
    have hn := sgnd_self n
    rw [← hb] at hn
    refine G.loop (ι := Nat × List Nat × (Option Addr × Nat × Nat)) (fun i => [(2, .p 0 0), (3, .p 1003 0), (0, .v (.int .i64 (sgnd b i.1)))])
      (fun i => [(0, ⟨42, [.v (.bool false), .v (.slice none 0 0)]⟩), (1003, ⟨42, [.v (.bool b), .v (.slice i.2.2.1 i.2.2.2.1 i.2.2.2.2)]⟩)])
      (fun i u' m' => (i.1 ≤ 9223372036854775807 ∧ (i.1 ≠ 0 → i.2.1.length ≤ 3) ∧ i.2.1.length ≤ 4 ∧ i.1 * 1000000000 ^ i.2.1.length ≤ 9223372036854775807) ∧ OfSt n.natAbs i.1 i.2.1 ∧ ArrAt PH.mt m' (.slice i.2.2.1 i.2.2.2.1 i.2.2.2.2) 3 1 (intsV i.2.1)) (fun i => i.1) (n.natAbs, [], (none, 0, 0)) (by kernel_rfl) (fun _ => by kernel_rfl) ⟨by kernel_rfl, by rw [hn]; kernel_rfl, by kernel_rfl⟩ ⟨⟨by dsimp only; omega, by simp, by simp, by simp; omega⟩, OfSt.start _, ArrAt.nil _ _ _⟩ ?_
    rintro J ⟨k, ys, ⟨a, ny, c⟩⟩ hJ u' m' hle ⟨⟨hk, hk2, hk3, hk4⟩, hst, hA⟩
    simp only at hk hk2 hk3 hk4 hst hA hJ
    have hys := hA.len
    rw [intsV_length] at hys
    have hsk : -9223372036854775807 ≤ sgnd b k ∧ sgnd b k ≤ 9223372036854775807 := by unfold sgnd; split <;> omega
    by_cases h0 : k = 0
    · subst h0
      refine G.neqF (sgnd b 0) 0 (by kernel_rfl) (by unfold sgnd; split <;> simp) ?_
      refine G.give PH.mt (intsV ys) _ (by kernel_rfl) hA (fun _ => .inl rfl) ?_
      intro u1 l1 hL
      refine G.ret (.agg #[.bool b, .slice a ny c]) (by kernel_rfl) ⟨rfl, a, ny, c, by rw [hb], ?_⟩
      rw [← hst.done]; exact hL
    · have hlt3 := hk2 h0
      refine G.neqT (sgnd b k) 0 (by kernel_rfl) (by unfold sgnd; split <;> omega) ?_
      have hnext : (k / 1000000000 ≤ 9223372036854775807 ∧ (k / 1000000000 ≠ 0 → (ys ++ [k % 1000000000]).length ≤ 3) ∧ (ys ++ [k % 1000000000]).length ≤ 4 ∧ k / 1000000000 * 1000000000 ^ (ys ++ [k % 1000000000]).length ≤ 9223372036854775807) := by
        have e4 : k / 1000000000 * 1000000000 ^ (ys.length + 1) ≤ 9223372036854775807 := by
          rw [Nat.pow_succ, Nat.mul_comm (1000000000 ^ ys.length), ← Nat.mul_assoc]
          exact Nat.le_trans (Nat.mul_le_mul_right _ (Nat.div_mul_le_self _ _)) hk4
        refine ⟨by omega, fun hne => ?_, by simp; omega, by simpa using e4⟩
        rcases Nat.lt_or_ge ys.length 3 with h | h
        · simp; omega
        · exfalso
          have : ys.length = 3 := by omega
          rw [this] at e4
          have h1 : 1 * 1000000000 ^ (3 + 1) ≤ k / 1000000000 * 1000000000 ^ (3 + 1) := Nat.mul_le_mul_right _ (by omega)
          have h2 : (9223372036854775807 : Nat) < 1 * 1000000000 ^ (3 + 1) := by decide
          omega
      by_cases hb2 : b = true ∧ k % 1000000000 ≠ 0
      · obtain ⟨hbt, hm⟩ := hb2
        refine G.remT (sgnd b k) 1000000000 (-((k % 1000000000 : Nat) : Int)) (by kernel_rfl) (by omega) (by rw [sgnd_tmod, hbt]; rfl) (by omega) (by omega) ?_
        refine G.lssT (-((k % 1000000000 : Nat) : Int)) 0 (by kernel_rfl) (by omega) ?_
        refine G.neg (-((k % 1000000000 : Nat) : Int)) ((k % 1000000000 : Nat) : Int) (by kernel_rfl) (by omega) (by omega) (by omega) ?_
        refine G.buildU 3 1 8 (.int .i64 0) [.int .i64 ((k % 1000000000 : Nat) : Int)] (by kernel_rfl) (intsV_ok [k % 1000000000]) rfl (by omega) (by simp) (by simp) ?_
        intro g u1 l1 e1
        refine G.append 3 1 8 (.int .i64 0) PH.mt (intsV ys) [.int .i64 ((k % 1000000000 : Nat) : Int)] (.slice a ny c) g 0 1 1 (by kernel_rfl) rfl rfl (by omega) hA e1 (intsV_ok [k % 1000000000]) rfl (by omega) (by rw [intsV_length]; omega) (by rw [intsV_length]; omega) ?_
        intro v2 m2 hA2
        rw [intsV_snoc] at hA2
        obtain ⟨a2, c2, rfl⟩ := hA2.shape
        refine G.quoT (sgnd b k) 1000000000 (sgnd b (k / 1000000000)) (by kernel_rfl) (by omega) (by omega) (by omega) (sgnd_tdiv b k) ?_
        exact G.back (by kernel_rfl) (hJ (k / 1000000000, ys ++ [k % 1000000000], (a2, (intsV (ys ++ [k % 1000000000])).length, c2)) _ _ _ ⟨by kernel_rfl, by kernel_rfl, by kernel_rfl⟩ (hle.trans l1) ⟨hnext, hst.step h0, hA2⟩ (by dsimp only; omega))
      · refine G.remT (sgnd b k) 1000000000 ((k % 1000000000 : Nat) : Int) (by kernel_rfl) (by omega) (by rw [sgnd_tmod]; unfold sgnd; split <;> simp_all) (by omega) (by omega) ?_
        refine G.lssF ((k % 1000000000 : Nat) : Int) 0 (by kernel_rfl) (by omega) ?_
        refine G.buildU 3 1 8 (.int .i64 0) [.int .i64 ((k % 1000000000 : Nat) : Int)] (by kernel_rfl) (intsV_ok [k % 1000000000]) rfl (by omega) (by simp) (by simp) ?_
        intro g u1 l1 e1
        refine G.append 3 1 8 (.int .i64 0) PH.mt (intsV ys) [.int .i64 ((k % 1000000000 : Nat) : Int)] (.slice a ny c) g 0 1 1 (by kernel_rfl) rfl rfl (by omega) hA e1 (intsV_ok [k % 1000000000]) rfl (by omega) (by rw [intsV_length]; omega) (by rw [intsV_length]; omega) ?_
        intro v2 m2 hA2
        rw [intsV_snoc] at hA2
        obtain ⟨a2, c2, rfl⟩ := hA2.shape
        refine G.quoT (sgnd b k) 1000000000 (sgnd b (k / 1000000000)) (by kernel_rfl) (by omega) (by omega) (by omega) (sgnd_tdiv b k) ?_
        exact G.back (by kernel_rfl) (hJ (k / 1000000000, ys ++ [k % 1000000000], (a2, (intsV (ys ++ [k % 1000000000])).length, c2)) _ _ _ ⟨by kernel_rfl, by kernel_rfl, by kernel_rfl⟩ (hle.trans l1) ⟨hnext, hst.step h0, hA2⟩ (by dsimp only; omega))
  by_cases hneg : n < 0
  · exact G.lssT n 0 (by kernel_rfl) hneg (key true (by simpa using hneg))
  · exact G.lssF n 0 (by kernel_rfl) hneg (key false (by simpa using hneg))
end Go.Proofs.YtldokelpolbnnaaGreatDoor
end
section
set_option linter.unusedSectionVars false
set_option linter.unusedVariables false
namespace Go.Proofs.YtldokelpolbnnaaGreatDoor
open Go.RowKit
def QP (u : PH) (v : Value) (q : Rat) : Prop :=
  ∃ a n c a' n' c', v = .agg #[.bool (decide (q.num < 0)), .slice a n c, .bool false, .slice a' n' c'] ∧ IntsP u (.slice a n c) (limbs q.num.natAbs) ∧ IntsP u (.slice a' n' c') (limbs q.den)
theorem QP.mono {u u' : PH} {v : Value} {q : Rat} (h : QP u v q) (hl : PH.le u u') : QP u' v q := by
  obtain ⟨a, n, c, a', n', c', h1, h2, h3⟩ := h; exact ⟨a, n, c, a', n', c', h1, h2.mono hl, h3.mono hl⟩
theorem QP.opn {u : PH} {v : Value} {q : Rat} (h : QP u v q) : ∃ b a n c a' n' c', v = .agg #[.bool b, .slice a n c, .bool false, .slice a' n' c'] ∧ b = decide (q.num < 0) ∧ BigP u (.agg #[.bool b, .slice a n c]) q.num ∧ BigP u (.agg #[.bool false, .slice a' n' c']) (q.den : Int) := by
  obtain ⟨a, n, c, a', n', c', rfl, h2, h3⟩ := h
  exact ⟨_, a, n, c, a', n', c', rfl, rfl, ⟨a, n, c, rfl, h2⟩, ⟨a', n', c', by rw [decide_eq_false (by omega)], h3⟩⟩
theorem QP.mk {u : PH} {q : Rat} {y z : Int} {b b' : Bool} {a a' : Option Addr} {n c n' c' : Nat} (h1 : BigP u (.agg #[.bool b, .slice a n c]) y) (h2 : BigP u (.agg #[.bool b', .slice a' n' c']) z) (hy : q.num = y) (hz : (q.den : Int) = z) :
    QP u (.agg #[.bool b, .slice a n c, .bool b', .slice a' n' c']) q := by
  obtain ⟨_, _, _, e1, i1⟩ := h1
  obtain ⟨_, _, _, e2, i2⟩ := h2
  subst hy hz
  rw [decide_eq_false (by omega)] at e2
  simp only [Value.agg.injEq, Array.mk.injEq, List.cons.injEq, Value.bool.injEq, Value.slice.injEq, and_true] at e1 e2
  obtain ⟨rfl, rfl, rfl, rfl⟩ := e1
  obtain ⟨rfl, rfl, rfl, rfl⟩ := e2
  exact ⟨_, _, _, _, _, _, rfl, i1, i2⟩
theorem tdiv_gcd_l (y : Int) (z : Nat) : y.tdiv (Nat.gcd y.natAbs z : Nat) = y / (Nat.gcd y.natAbs z : Nat) := by
  apply Int.tdiv_eq_ediv_of_dvd
  exact Int.ofNat_dvd_left.2 (Nat.gcd_dvd_left _ _)
theorem tdiv_gcd_r (y : Nat) (z : Int) : z.tdiv (Nat.gcd y z.natAbs : Nat) = z / (Nat.gcd y z.natAbs : Nat) := by
  apply Int.tdiv_eq_ediv_of_dvd
  exact Int.ofNat_dvd_left.2 (Nat.gcd_dvd_right _ _)
theorem new_pos {y z : Int} (hz : 0 < z) : (Rat.divInt y z).num = y.tdiv (Nat.gcd y.natAbs z.natAbs : Nat) ∧ ((Rat.divInt y z).den : Int) = z.tdiv (Nat.gcd y.natAbs z.natAbs : Nat) ∧ 0 < z.tdiv (Nat.gcd y.natAbs z.natAbs : Nat) := by
  have h := divInt_gcd (y := y) hz rfl
  have e : z = ((z.natAbs : Nat) : Int) := by omega
  have h3 : ((Rat.divInt y z).den : Int) = z.tdiv (Nat.gcd y.natAbs z.natAbs : Nat) := by
    rw [h.2, tdiv_gcd_r, Int.natCast_ediv]; congr 1; exact e.symm
  refine ⟨by rw [h.1, tdiv_gcd_l], h3, ?_⟩
  rw [← h3]; have := (Rat.divInt y z).den_pos; omega
theorem new_neg {y z : Int} (hz : z < 0) : (Rat.divInt y z).num = -(y.tdiv (Nat.gcd y.natAbs z.natAbs : Nat)) ∧ ((Rat.divInt y z).den : Int) = -(z.tdiv (Nat.gcd y.natAbs z.natAbs : Nat)) ∧ z.tdiv (Nat.gcd y.natAbs z.natAbs : Nat) < 0 := by
  have h := new_pos (y := -y) (z := -z) (by omega)
  rw [divInt_neg_neg, Int.natAbs_neg, Int.natAbs_neg, Int.neg_tdiv, Int.neg_tdiv] at h
  exact ⟨h.1, h.2.1, by omega⟩
theorem nl_tdiv {y : Int} {g k : Nat} (h : nl y.natAbs ≤ k) : nl (y.tdiv g).natAbs ≤ k := by
  refine Nat.le_trans (nl_mono ?_) h
  rw [Int.natAbs_tdiv]; exact Nat.div_le_self _ _
theorem refOf0 {u : PH} {z : Int} (h1 : -9223372036854775807 ≤ z) (h2 : z ≤ 9223372036854775807) : Fn0 Tryz.prog 17 [.int .i64 z] u fun v u' => QP u' v (z : Rat) := by
  refine Fn0.of Tryz.func17 (by kernel_rfl) (by kernel_rfl) ?_
  refine G.call0 _ _ (by kernel_rfl) Tryz.call38 (bigOf0 h1 h2) ?_
  intro v1 u1 l1 k1
  obtain ⟨b1, a1, n1, c1, rfl, _, _⟩ := k1.opn
  refine G.call0 _ _ (by kernel_rfl) Tryz.call38 (bigOf0 (n := 1) (by omega) (by omega)) ?_
  intro v2 u2 l2 k2
  obtain ⟨b2, a2, n2, c2, rfl, _, _⟩ := k2.opn
  exact G.ret (.agg #[.bool b1, .slice a1 n1 c1, .bool b2, .slice a2 n2 c2]) (by kernel_rfl) ⟨rfl, QP.mk (k1.mono l2) k2 rfl rfl⟩
theorem refNew0 {u : PH} {x x' : Value} {y z : Int} (hx : BigP u x y) (hx' : BigP u x' z) (sy : nl y.natAbs ≤ 100000000000) (sz : nl z.natAbs ≤ 100000000000) (hz : z ≠ 0) :
    Fn0 Tryz.prog 37 [x, x'] u fun v u' => QP u' v (Rat.divInt y z) := by
  obtain ⟨b, a, n, c, rfl, _, _⟩ := hx.opn
  obtain ⟨b', a', n', c', rfl, _, hi'⟩ := hx'.opn
  obtain ⟨rfl, _⟩ := hi'.len
  have sz' : (limbs z.natAbs).length ≤ 100000000000 := sz
  have hzp : 0 < (limbs z.natAbs).length := len_pos.2 (by omega)
  have hg0 : 0 < Nat.gcd y.natAbs z.natAbs := Nat.gcd_pos_of_pos_right _ (by omega)
  have hgs : nl (Nat.gcd y.natAbs z.natAbs) ≤ 100000000000 := Nat.le_trans (nl_mono (Nat.gcd_le_right _ (by omega))) sz
  refine Fn0.of Tryz.func37 (by kernel_rfl) (by kernel_rfl) ?_
  refine G.eqlF ((limbs z.natAbs).length : Int) 0 (by kernel_rfl) (by omega) ?_
  refine G.call0 _ _ (by kernel_rfl) Tryz.call76 (bigGcd0 hx hx' sy sz) ?_
  intro v1 u1 l1 k1
  obtain ⟨b1, a1, n1, c1, rfl, _, _⟩ := k1.opn
  refine G.call0 _ _ (by kernel_rfl) Tryz.call77 (bigQuo0 (hx.mono l1) k1 sy (by simpa using hgs) (by omega)) ?_
  rintro v2 u2 l2 ⟨va, vb, rfl, k2, k2'⟩
  obtain ⟨b2, a2, n2, c2, rfl, _, _⟩ := k2.opn
  obtain ⟨b3, a3, n3, c3, rfl, _, _⟩ := k2'.opn
  refine G.call0 _ _ (by kernel_rfl) Tryz.call77 (bigQuo0 (hx'.mono (l1.trans l2)) (k1.mono l2) sz (by simpa using hgs) (by omega)) ?_
  rintro v4 u4 l4 ⟨va, vb, rfl, k4, k4'⟩
  obtain ⟨b4, a4, n4, c4, rfl, hb4, _⟩ := k4.opn
  obtain ⟨b5, a5, n5, c5, rfl, _, _⟩ := k4'.opn
  have k2 := k2.mono l4
  rcases Int.lt_or_gt_of_ne hz with hn | hp
  · obtain ⟨e1, e2, e3⟩ := new_neg (y := y) hn
    rw [decide_eq_true e3] at hb4
    subst hb4
    refine G.call0 _ _ (by kernel_rfl) Tryz.call78 (bigMinus1 k2 (Nat.le_trans (nl_tdiv sy) (by omega))) ?_
    intro v6 u6 l6 k6
    obtain ⟨b6, a6, n6, c6, rfl, _, _⟩ := k6.opn
    refine G.call0 _ _ (by kernel_rfl) Tryz.call78 (bigMinus1 (k4.mono l6) (Nat.le_trans (nl_tdiv sz) (by omega))) ?_
    intro v7 u7 l7 k7
    obtain ⟨b7, a7, n7, c7, rfl, _, _⟩ := k7.opn
    exact G.ret (.agg #[.bool b6, .slice a6 n6 c6, .bool b7, .slice a7 n7 c7]) (by kernel_rfl) ⟨rfl, QP.mk (k6.mono l7) k7 e1 e2⟩
  · obtain ⟨e1, e2, e3⟩ := new_pos (y := y) hp
    rw [decide_eq_false (by omega)] at hb4
    subst hb4
    exact G.ret (.agg #[.bool b2, .slice a2 n2 c2, .bool false, .slice a4 n4 c4]) (by kernel_rfl) ⟨rfl, QP.mk k2 k4 e1 e2⟩
theorem refZero0 {u : PH} {x : Value} {q : Rat} (h : QP u x q) (hs : nl q.num.natAbs ≤ 100000000000) : Fn0 Tryz.prog 21 [x] u fun v u' => v = .bool (decide (q.num = 0)) := by
  obtain ⟨b, a, n, c, a', n', c', rfl, hb, h1, h2⟩ := h.opn
  obtain ⟨_, _, _, e1, hi⟩ := h1
  simp only [Value.agg.injEq, Array.mk.injEq, List.cons.injEq, Value.bool.injEq, Value.slice.injEq, and_true] at e1
  obtain ⟨_, rfl, rfl, rfl⟩ := e1
  obtain ⟨rfl, _⟩ := hi.len
  have hs' : (limbs q.num.natAbs).length ≤ 100000000000 := hs
  have hp := len_pos (n := q.num.natAbs)
  refine Fn0.of Tryz.func21 (by kernel_rfl) (by kernel_rfl) ?_
  by_cases h0 : q.num = 0
  · refine G.eqlT ((limbs q.num.natAbs).length : Int) 0 (by kernel_rfl) (by rw [h0]; simp [limbs_zero]) ?_
    exact G.ret (.bool true) (by kernel_rfl) ⟨rfl, by simp [h0]⟩
  · have h3 : 0 < (limbs q.num.natAbs).length := hp.2 (by omega)
    refine G.eqlF ((limbs q.num.natAbs).length : Int) 0 (by kernel_rfl) (by omega) ?_
    exact G.ret (.bool false) (by kernel_rfl) ⟨rfl, by simp [h0]⟩
theorem refSign0 {u : PH} {x : Value} {q : Rat} (h : QP u x q) (hs : nl q.num.natAbs ≤ 100000000000) : Fn0 Tryz.prog 29 [x] u fun v u' => v = .int .i64 (sgn q.num) := by
  obtain ⟨b, a, n, c, a', n', c', rfl, hb, h1, h2⟩ := h.opn
  refine Fn0.of Tryz.func29 (by kernel_rfl) (by kernel_rfl) ?_
  by_cases hn : q.num < 0
  · rw [decide_eq_true hn] at hb
    subst hb
    exact G.ret (.int .i64 (-1)) (by kernel_rfl) ⟨rfl, by simp [sgn, hn]⟩
  · rw [decide_eq_false hn] at hb
    subst hb
    refine G.call0 _ _ (by kernel_rfl) Tryz.call21 (refZero0 h hs) ?_
    rintro v1 u1 l1 rfl
    by_cases h0 : q.num = 0
    · rw [decide_eq_true h0]
      exact G.ret (.int .i64 0) (by kernel_rfl) ⟨rfl, by simp [sgn, h0]⟩
    · rw [decide_eq_false h0]
      exact G.ret (.int .i64 1) (by kernel_rfl) ⟨rfl, by simp [sgn, hn]; omega⟩
theorem sub_new (q r : Rat) : Rat.divInt (q.num * (r.den : Int) - r.num * (q.den : Int)) ((q.den : Int) * (r.den : Int)) = q - r := by
  have h := add_new q (-r)
  rw [Rat.neg_num, Rat.neg_den, Int.neg_mul, ← Int.sub_eq_add_neg] at h
  rw [h, Rat.sub_eq_add_neg]
theorem nl_subZ {y z : Int} {k : Nat} (h1 : nl y.natAbs ≤ k) (h2 : nl z.natAbs ≤ k) : nl (y - z).natAbs ≤ k + 1 := by
  rw [Int.sub_eq_add_neg]; exact nl_addZ h1 (by rw [Int.natAbs_neg]; exact h2)
theorem refMul0 {u : PH} {x x' : Value} {q r : Rat} (hx : QP u x q) (hx' : QP u x' r) (s1 : Sz q 10000000000) (s2 : Sz r 10000000000) :
    Fn0 Tryz.prog 18 [x, x'] u fun v u' => QP u' v (q * r) := by
  obtain ⟨b, a, n, c, a', n', c', rfl, _, hn, hd⟩ := hx.opn
  obtain ⟨b2, a2, n2, c2, a2', n2', c2', rfl, _, hn2, hd2⟩ := hx'.opn
  refine Fn0.of Tryz.func18 (by kernel_rfl) (by kernel_rfl) ?_
  refine G.call0 _ _ (by kernel_rfl) Tryz.call52 (bigMul0 hn hn2 (Nat.le_trans s1.1 (by omega)) (Nat.le_trans s2.1 (by omega))) ?_
  intro v3 u3 l3 k3
  obtain ⟨b3, a3, n3, c3, rfl, _, _⟩ := k3.opn
  refine G.call0 _ _ (by kernel_rfl) Tryz.call52 (bigMul0 (hd.mono l3) (hd2.mono l3) (Nat.le_trans s1.2 (by omega)) (Nat.le_trans s2.2 (by omega))) ?_
  intro v4 u4 l4 k4
  obtain ⟨b4, a4, n4, c4, rfl, _, _⟩ := k4.opn
  refine G.call0 _ _ (by kernel_rfl) Tryz.call37 (refNew0 (k3.mono l4) k4 (Nat.le_trans (nl_mulZ s1.1 s2.1) (by omega)) (Nat.le_trans (nl_mulZ (k := 10000000000) (by simpa using s1.2) (by simpa using s2.2)) (by omega)) (den_ne q r)) ?_
  intro v5 u5 l5 k5
  rw [mul_new] at k5
  obtain ⟨b5, a5, n5, c5, a5', n5', c5', rfl, _⟩ := k5.opn
  exact G.ret (.agg #[.bool b5, .slice a5 n5 c5, .bool false, .slice a5' n5' c5']) (by kernel_rfl) ⟨rfl, k5⟩
theorem refAdd0 {u : PH} {x x' : Value} {q r : Rat} (hx : QP u x q) (hx' : QP u x' r) (s1 : Sz q 10000000000) (s2 : Sz r 10000000000) :
    Fn0 Tryz.prog 20 [x, x'] u fun v u' => QP u' v (q + r) := by
  obtain ⟨b, a, n, c, a', n', c', rfl, _, hn, hd⟩ := hx.opn
  obtain ⟨b2, a2, n2, c2, a2', n2', c2', rfl, _, hn2, hd2⟩ := hx'.opn
  have d1 : nl ((q.den : Int)).natAbs ≤ 10000000000 := by simpa using s1.2
  have d2 : nl ((r.den : Int)).natAbs ≤ 10000000000 := by simpa using s2.2
  refine Fn0.of Tryz.func20 (by kernel_rfl) (by kernel_rfl) ?_
  refine G.call0 _ _ (by kernel_rfl) Tryz.call52 (bigMul0 hn hd2 (Nat.le_trans s1.1 (by omega)) (Nat.le_trans d2 (by omega))) ?_
  intro v3 u3 l3 k3
  obtain ⟨b3, a3, n3, c3, rfl, _, _⟩ := k3.opn
  refine G.call0 _ _ (by kernel_rfl) Tryz.call52 (bigMul0 (hn2.mono l3) (hd.mono l3) (Nat.le_trans s2.1 (by omega)) (Nat.le_trans d1 (by omega))) ?_
  intro v4 u4 l4 k4
  obtain ⟨b4, a4, n4, c4, rfl, _, _⟩ := k4.opn
  refine G.call0 _ _ (by kernel_rfl) Tryz.call55 (bigAdd0 (k3.mono l4) k4 (Nat.le_trans (nl_mulZ s1.1 d2) (by omega)) (Nat.le_trans (nl_mulZ s2.1 d1) (by omega))) ?_
  intro v6 u6 l6 k6
  obtain ⟨b6, a6, n6, c6, rfl, _, _⟩ := k6.opn
  refine G.call0 _ _ (by kernel_rfl) Tryz.call52 (bigMul0 (hd.mono ((l3.trans l4).trans l6)) (hd2.mono ((l3.trans l4).trans l6)) (Nat.le_trans d1 (by omega)) (Nat.le_trans d2 (by omega))) ?_
  intro v7 u7 l7 k7
  obtain ⟨b7, a7, n7, c7, rfl, _, _⟩ := k7.opn
  refine G.call0 _ _ (by kernel_rfl) Tryz.call37 (refNew0 (k6.mono l7) k7 (Nat.le_trans (nl_addZ (nl_mulZ s1.1 d2) (nl_mulZ s2.1 d1)) (by omega)) (Nat.le_trans (nl_mulZ d1 d2) (by omega)) (den_ne q r)) ?_
  intro v5 u5 l5 k5
  rw [add_new] at k5
  obtain ⟨b5, a5, n5, c5, a5', n5', c5', rfl, _⟩ := k5.opn
  exact G.ret (.agg #[.bool b5, .slice a5 n5 c5, .bool false, .slice a5' n5' c5']) (by kernel_rfl) ⟨rfl, k5⟩
theorem refSub0 {u : PH} {x x' : Value} {q r : Rat} (hx : QP u x q) (hx' : QP u x' r) (s1 : Sz q 10000000000) (s2 : Sz r 10000000000) :
    Fn0 Tryz.prog 28 [x, x'] u fun v u' => QP u' v (q - r) := by
  obtain ⟨b, a, n, c, a', n', c', rfl, _, hn, hd⟩ := hx.opn
  obtain ⟨b2, a2, n2, c2, a2', n2', c2', rfl, _, hn2, hd2⟩ := hx'.opn
  have d1 : nl ((q.den : Int)).natAbs ≤ 10000000000 := by simpa using s1.2
  have d2 : nl ((r.den : Int)).natAbs ≤ 10000000000 := by simpa using s2.2
  refine Fn0.of Tryz.func28 (by kernel_rfl) (by kernel_rfl) ?_
  refine G.call0 _ _ (by kernel_rfl) Tryz.call52 (bigMul0 hn hd2 (Nat.le_trans s1.1 (by omega)) (Nat.le_trans d2 (by omega))) ?_
  intro v3 u3 l3 k3
  obtain ⟨b3, a3, n3, c3, rfl, _, _⟩ := k3.opn
  refine G.call0 _ _ (by kernel_rfl) Tryz.call52 (bigMul0 (hn2.mono l3) (hd.mono l3) (Nat.le_trans s2.1 (by omega)) (Nat.le_trans d1 (by omega))) ?_
  intro v4 u4 l4 k4
  obtain ⟨b4, a4, n4, c4, rfl, _, _⟩ := k4.opn
  refine G.call0 _ _ (by kernel_rfl) Tryz.call68 (bigSub0 (k3.mono l4) k4 (Nat.le_trans (nl_mulZ s1.1 d2) (by omega)) (Nat.le_trans (nl_mulZ s2.1 d1) (by omega))) ?_
  intro v6 u6 l6 k6
  obtain ⟨b6, a6, n6, c6, rfl, _, _⟩ := k6.opn
  refine G.call0 _ _ (by kernel_rfl) Tryz.call52 (bigMul0 (hd.mono ((l3.trans l4).trans l6)) (hd2.mono ((l3.trans l4).trans l6)) (Nat.le_trans d1 (by omega)) (Nat.le_trans d2 (by omega))) ?_
  intro v7 u7 l7 k7
  obtain ⟨b7, a7, n7, c7, rfl, _, _⟩ := k7.opn
  refine G.call0 _ _ (by kernel_rfl) Tryz.call37 (refNew0 (k6.mono l7) k7 (Nat.le_trans (nl_subZ (nl_mulZ s1.1 d2) (nl_mulZ s2.1 d1)) (by omega)) (Nat.le_trans (nl_mulZ d1 d2) (by omega)) (den_ne q r)) ?_
  intro v5 u5 l5 k5
  rw [sub_new] at k5
  obtain ⟨b5, a5, n5, c5, a5', n5', c5', rfl, _⟩ := k5.opn
  exact G.ret (.agg #[.bool b5, .slice a5 n5 c5, .bool false, .slice a5' n5' c5']) (by kernel_rfl) ⟨rfl, k5⟩
end Go.Proofs.YtldokelpolbnnaaGreatDoor
end
section
set_option linter.unusedSectionVars false
set_option linter.unusedSimpArgs false
set_option linter.unusedVariables false
namespace Go.Proofs.YtldokelpolbnnaaGreatDoor
open Go.RowKit
abbrev mkS (l : List UInt8) : ByteArray := ⟨l.toArray⟩
theorem mkS_toList (l : List UInt8) : (mkS l).toList = l := by
  rw [Go.Lib.toList_data]
theorem bytes_beq (a b : List UInt8) : ((mkS a).toList == (mkS b).toList) = decide (a = b) := by
  rw [mkS_toList, mkS_toList, Bool.eq_iff_iff]; simp
section rules
variable {P : Program} [Mixed P] {fn : Func} {Post : Spec} {st : List KI × S} {u m : PH}
def stopQ (Q : Op → Bool) (st : List KI × S) : Bool :=
  match st.1 with
  | .reg _ ops _ (i :: _) :: _ => match ops[i]? with
    | some o => Q o.op
    | none => false
  | _ => false
theorem G.askQ (Q : Op → Bool) {V : Stop} {v : Value} (h : stopV P (adv P st) = V) (hq : stopQ Q (adv P st) = true) (hV : V ≠ .other) (hr : ∀ env (o : Oper), viewOp P env o.op = V → Q o.op = true → ∀ w, (loadOp o.op = true → Part u w ∧ Part m w) → (execOp env o).run P w = .ok (.value v) w)
    (k : G P fn Post (nx (adv P st) v) u m) : G P fn Post st u m := by
  refine G.stp ?_
  obtain ⟨id, ops, dr, i, l, kk, s, o, e, ho, hg, hd, hv, hs, hview, hnx⟩ := stopV_spec h hV
  have k := k.out
  rw [hnx] at k
  have hQ : Q o.op = true := by
    rw [e] at hq; simpa [stopQ, ho] using hq
  rw [e]
  exact ⟨Ob.ask ho hg hd hv hs (fun w hp => hr _ o hview hQ w hp) k⟩
def isStrSlice (P : Program) : Op → Bool
  | .slice t .. => match P.underlying t with | some .string => true | _ => false
  | _ => false
theorem guard_str {op : BinOp} {x y : ByteArray} (t : TypeId) (X Y : Operand) (w : World) : (eqGuard op t X Y (.string x) (.string y)).run P w = .ok () w := by
  unfold eqGuard; split <;> simp
theorem G.eqST (a b : List UInt8) (h : stopV P (adv P st) = .bin .eql (.string (mkS a)) (.string (mkS b))) (hab : a = b) (k : G P fn Post (nx (adv P st) (.bool true)) u m) : G P fn Post st u m :=
  G.bin _ h guard_str (fun t w => by simp [binOp, Op.stringOp, bytes_beq, hab]) k
theorem G.eqSF (a b : List UInt8) (h : stopV P (adv P st) = .bin .eql (.string (mkS a)) (.string (mkS b))) (hab : a ≠ b) (k : G P fn Post (nx (adv P st) (.bool false)) u m) : G P fn Post st u m :=
  G.bin _ h guard_str (fun t w => by simp only [binOp, Op.stringOp, bytes_beq, decide_eq_false hab]; rfl) k
theorem G.neST (a b : List UInt8) (h : stopV P (adv P st) = .bin .neq (.string (mkS a)) (.string (mkS b))) (hab : a ≠ b) (k : G P fn Post (nx (adv P st) (.bool true)) u m) : G P fn Post st u m :=
  G.bin _ h guard_str (fun t w => by simp only [binOp, Op.stringOp, bytes_beq, decide_eq_false hab]; rfl) k
theorem G.neSF (a b : List UInt8) (h : stopV P (adv P st) = .bin .neq (.string (mkS a)) (.string (mkS b))) (hab : a = b) (k : G P fn Post (nx (adv P st) (.bool false)) u m) : G P fn Post st u m :=
  G.bin _ h guard_str (fun t w => by simp only [binOp, Op.stringOp, bytes_beq, decide_eq_true hab]; rfl) k
theorem mkS_append (a b : List UInt8) : mkS a ++ mkS b = mkS (a ++ b) := by
  rw [mkS, mkS, ByteArray.mk_append_mk]
theorem G.addS (a b : List UInt8) (h : stopV P (adv P st) = .bin .add (.string (mkS a)) (.string (mkS b))) (hl : a.length + b.length ≤ 9223372036854775807) (k : G P fn Post (nx (adv P st) (.string (mkS (a ++ b)))) u m) : G P fn Post st u m :=
  G.bin _ h guard_str (fun t w => by
    have h1 : ¬ (((mkS a).size + (mkS b).size : Nat) : Int) > IntKind.i64.max := by
      rw [Go.Lib.size_mk, Go.Lib.size_mk]; simp [IntKind.max, IntKind.signed, IntKind.bits]; omega
    simp only [binOp, Op.stringOp]
    rw [if_neg h1, mkS_append]; rfl) k
theorem view_index {env : Operand → Value} {o : Op} {t : Option TypeDesc} {x i : Value} (h : viewOp P env o = .index t x i) : ∃ t' X I, o = .index t' X I ∧ env X = x ∧ env I = i ∧ P.underlying t' = t := by
  cases o <;> simp only [viewOp] at h <;> try cases h
  any_goals ((repeat' split at h) <;> cases h; done)
  · exact ⟨_, _, _, rfl, rfl, rfl, rfl⟩
theorem view_conv {env : Operand → Value} {o : Op} {s d : Option TypeDesc} {x : Value} (h : viewOp P env o = .conv s d x) : ∃ s' d' X, o = .convert s' d' X ∧ env X = x ∧ P.underlying s' = s ∧ P.underlying d' = d := by
  cases o <;> simp only [viewOp] at h <;> try cases h
  any_goals ((repeat' split at h) <;> cases h; done)
  · exact ⟨_, _, _, rfl, rfl, rfl, rfl⟩
theorem G.idxS (l : List UInt8) (i : Nat) (b : UInt8) (h : stopV P (adv P st) = .index (some .string) (.string (mkS l)) (.int .i64 (i : Int))) (hb : l[i]? = some b)
    (k : G P fn Post (nx (adv P st) (.int .u8 (b.toNat : Int))) u m) : G P fn Post st u m := by
  refine G.ask h (by simp) (fun env o hview w _ => ?_) k
  obtain ⟨t, X, I, e1, e2, e3, e4⟩ := view_index hview
  obtain ⟨dst, opp, type, pos, after, guard⟩ := o
  simp only at e1; subst e1
  obtain ⟨hi, hb⟩ := List.getElem?_eq_some_iff.1 hb
  have e5 : (mkS l)[i]? = some b := by
    have h6 : i < (mkS l).size := by rw [Go.Lib.size_mk]; exact hi
    rw [getElem?_pos (mkS l) i h6]
    congr 1
  have h0 : (0 : Int) ≤ (i : Int) := by omega
  simp [execOp, e2, e3, Instr.index, run_underlying e4, asIntOf, e5, h0]
theorem G.sliceSTo (l : List UInt8) (n : Nat) (h : stopV P (adv P st) = .slice none (.string (mkS l)) none (some (.int .i64 (n : Int))) none) (hq : stopQ (isStrSlice P) (adv P st) = true) (hn : n ≤ l.length)
    (k : G P fn Post (nx (adv P st) (.string (mkS (l.take n)))) u m) : G P fn Post st u m := by
  refine G.askQ _ h hq (by simp) (fun env o hview hQ w hp => ?_) k
  obtain ⟨t, X, L, H, M, e1, e2, e3, e4, e5, hsz⟩ := view_slice hview
  obtain ⟨dst, opp, type, pos, after, guard⟩ := o
  simp only at e1; subst e1
  simp only [isStrSlice] at hQ
  split at hQ
  · rename_i hu
    have h1 : (0 : Int) ≤ n ∧ (n : Int) ≤ (mkS l).size := by rw [Go.Lib.size_mk]; omega
    simp only [execOp, e2, e3, e4, e5]
    simp only [Instr.sliceAt, Sem.run_bind, run_underlying hu, Result.andThen_ok, Instr.slice, Instr.sliceBounds, Instr.sliceBound, asIntOf, Sem.run_pure, if_true, Option.isSome, Sem.run_ite, h1, and_self, Int.toNat_natCast, Nat.sub_zero]
    simp [Go.Lib.extract_mk]
  · cases hQ
theorem G.sliceSFrom (l : List UInt8) (n : Nat) (h : stopV P (adv P st) = .slice none (.string (mkS l)) (some (.int .i64 (n : Int))) none none) (hq : stopQ (isStrSlice P) (adv P st) = true) (hn : n ≤ l.length)
    (k : G P fn Post (nx (adv P st) (.string (mkS (l.drop n)))) u m) : G P fn Post st u m := by
  refine G.askQ _ h hq (by simp) (fun env o hview hQ w hp => ?_) k
  obtain ⟨t, X, L, H, M, e1, e2, e3, e4, e5, hsz⟩ := view_slice hview
  obtain ⟨dst, opp, type, pos, after, guard⟩ := o
  simp only at e1; subst e1
  simp only [isStrSlice] at hQ
  split at hQ
  · rename_i hu
    have h1 : (0 : Int) ≤ n ∧ (n : Int) ≤ (mkS l).size := by rw [Go.Lib.size_mk]; omega
    simp only [execOp, e2, e3, e4, e5]
    simp only [Instr.sliceAt, Sem.run_bind, run_underlying hu, Result.andThen_ok, Instr.slice, Instr.sliceBounds, Instr.sliceBound, asIntOf, Sem.run_pure, if_true, Option.isSome, Sem.run_ite, h1, and_self, Int.toNat_natCast, Nat.sub_zero]
    have h2 : (mkS l).extract n (mkS l).size = mkS (l.drop n) := by
      rw [Go.Lib.extract_mk, Go.Lib.size_mk, List.take_of_length_le (by simp)]
    simp [h2]
  · cases hQ
theorem G.convI (k0 k1 k2 : IntKind) (x z : Int) (h : stopV P (adv P st) = .conv (some (.int k0)) (some (.int k1)) (.int k2 x)) (hz : k1.wrap x = z)
    (k : G P fn Post (nx (adv P st) (.int k1 z)) u m) : G P fn Post st u m := by
  refine G.ask h (by simp) (fun env o hview w _ => ?_) k
  obtain ⟨s, d, X, e1, e2, e3, e4⟩ := view_conv hview
  obtain ⟨dst, opp, type, pos, after, guard⟩ := o
  simp only at e1; subst e1
  simp [execOp, convert, e2, run_underlying e3, run_underlying e4, Conv.intToInt, hz]
theorem u8_wrap {z : Int} (h1 : 0 ≤ z) (h2 : z < 256) : IntKind.u8.wrap z = z := by
  simp only [IntKind.wrap, IntKind.signed, IntKind.bits]; simp; omega
theorem G.sub8 (x y z : Int) (h : stopV P (adv P st) = .bin .sub (.int .u8 x) (.int .u8 y)) (hz : x - y = z) (h1 : 0 ≤ z) (h2 : z < 256)
    (k : G P fn Post (nx (adv P st) (.int .u8 z)) u m) : G P fn Post st u m :=
  G.bin _ h guard_int (fun t w => by simp [binOp, Op.intArith, hz, u8_wrap h1 h2]) k
def bytesV (l : List UInt8) : List Value := l.map fun b => Value.int .u8 (b.toNat : Int)
theorem bytesV_length (l : List UInt8) : (bytesV l).length = l.length := by simp [bytesV]
theorem bytesV_append (l l' : List UInt8) : bytesV (l ++ l') = bytesV l ++ bytesV l' := by simp [bytesV]
theorem bytesV_ok (l : List UInt8) : ElsOK 1 (bytesV l) := by
  intro e he
  simp only [bytesV, List.mem_map] at he
  obtain ⟨b, _, rfl⟩ := he
  exact ⟨rfl, fun x hx => by simp [Value.cells] at hx; subst hx; rfl⟩
theorem ArrAt.take {m0 : PH} {t : TypeId} {sz : Nat} {es : List Value} {a : Option Addr} {n c k : Nat} (ha : ArrAt m0 m (.slice a n c) t sz es) (hk : k ≤ es.length) : ArrAt m0 m (.slice a k c) t sz (es.take k) := by
  refine ⟨fun e he => ha.1 e (List.mem_of_mem_take he), ?_⟩
  rcases ha.2 with ⟨hv, rfl, hm⟩ | ⟨g, cap, rest, hg0, rfl, hv, hcap, hlen, hrest⟩
  · left
    simp at hv hk; obtain ⟨rfl, rfl, rfl⟩ := hv; subst hk; exact ⟨rfl, rfl, hm⟩
  · right
    simp only [Value.slice.injEq] at hv
    obtain ⟨rfl, rfl, rfl⟩ := hv
    have e : flat es = flat (es.take k) ++ flat (es.drop k) := by rw [← flat_append, List.take_append_drop]
    refine ⟨g, c, flat (es.drop k) ++ rest, hg0, by rw [← List.append_assoc, ← e], by simp; omega, by simp; omega, by rw [← List.append_assoc, ← e]; exact hlen, fun x hx => ?_⟩
    rcases List.mem_append.1 hx with hx | hx
    · simp only [flat, List.mem_flatMap] at hx
      obtain ⟨e', he', hx⟩ := hx
      exact (ha.1 e' (List.mem_of_mem_drop he')).2 x hx
    · exact hrest x hx
theorem ArrAt.cap {m0 : PH} {t : TypeId} {sz : Nat} {es : List Value} {a : Option Addr} {n c : Nat} (ha : ArrAt m0 m (.slice a n c) t sz es) : n ≤ c := by
  rcases ha.2 with ⟨hv, rfl, hm⟩ | ⟨g, cap, rest, hg0, rfl, hv, hcap, hlen, hrest⟩
  · simp at hv; omega
  · simp at hv; omega
theorem G.convB (m0 : PH) (t e : TypeId) (l : List UInt8) (b n c : Nat) (h : stopV P (adv P st) = .conv (some (.slice e)) (some .string) (.slice (some ⟨b, 0, none⟩) n c)) (he : P.underlying e = some (.int .u8))
    (ha : ArrAt m0 m (.slice (some ⟨b, 0, none⟩) n c) t 1 (bytesV l)) (k : G P fn Post (nx (adv P st) (.string (mkS l))) u m) : G P fn Post st u m := by
  refine G.ask h (by simp) (fun env o hview w hp => ?_) k
  obtain ⟨s, d, X, e1, e2, e3, e4⟩ := view_conv hview
  obtain ⟨dst, opp, type, pos, after, guard⟩ := o
  simp only at e1; subst e1
  have hm := (hp rfl).2
  have hn := ha.len
  rw [bytesV_length] at hn
  subst hn
  have := run_convert_bytes_back (P := P) w s d e ⟨b, 0, none⟩ c l e3 he e4 (fun j hj => by
    have h1 := ha.el (j := j) (e := .int .u8 (l[j].toNat : Int)) (by simp [bytesV, hj])
    have h2 := (h1 0 (.int .u8 (l[j].toNat : Int)) (by simp [Value.cells])).cell hm
    rw [addr_add]; simpa using h2)
  simp [execOp, e2, this]
end rules
end Go.Proofs.YtldokelpolbnnaaGreatDoor
end
section
set_option linter.unusedVariables false
namespace Go.Proofs.YtldokelpolbnnaaGreatDoor
open Go.Lib
def ld (n k : Nat) : List UInt8 := (List.range k).map (dg n)
theorem ld_succ (n k : Nat) : ld n (k + 1) = ld n k ++ [dg n k] := by simp [ld, List.range_succ]
theorem ld_length (n k : Nat) : (ld n k).length = k := by simp [ld]
theorem ld_get {n k j : Nat} (h : j < k) : (ld n k)[j]? = some (dg n j) := by simp [ld, h]
theorem ld_take {n k j : Nat} (h : j ≤ k) : (ld n k).take j = ld n j := by
  apply List.ext_getElem?
  intro i
  rw [List.getElem?_take]
  split
  · rw [ld_get (by omega), ld_get (by omega)]
  · rw [List.getElem?_eq_none (by rw [ld_length]; omega)]
theorem ld_rev (n : Nat) : (ld n (nDigits n)).reverse = decDigits n := by
  rw [decDigits_eq]
  apply List.ext_getElem?
  intro i
  by_cases h : i < nDigits n
  · rw [List.getElem?_reverse (by rw [ld_length]; exact h), ld_length, ld_get (by omega)]
    simp [h]
  · rw [List.getElem?_eq_none (by simp [ld_length]; omega), List.getElem?_eq_none (by simp; omega)]
theorem limbs_getD (n i : Nat) : (limbs n).getD i 0 = n / 1000000000 ^ i % 1000000000 := by
  induction i generalizing n with
  | zero =>
    by_cases h : n = 0
    · subst h; simp [limbs_zero]
    · rw [limbs_pos h]; simp
  | succ i ih =>
    by_cases h : n = 0
    · subst h; simp [limbs_zero]
    · rw [limbs_pos h, List.getD_cons_succ, ih, Nat.pow_succ, Nat.mul_comm, Nat.div_div_eq_div_mul]
theorem ten9 (i : Nat) : (1000000000 : Nat) ^ i = 10 ^ (9 * i) := by rw [Nat.pow_mul]
theorem dg_limb (n i t : Nat) (ht : t < 9) : dg n (9 * i + t) = UInt8.ofNat (48 + (limbs n).getD i 0 / 10 ^ t % 10) := by
  rw [limbs_getD, ten9]
  have e : (1000000000 : Nat) = 10 ^ t * 10 ^ (9 - t) := by rw [← Nat.pow_add, show t + (9 - t) = 9 by omega]
  rw [e, Nat.mod_mul_right_div_self, Nat.mod_mod_of_dvd _ (by rw [show 9 - t = (8 - t) + 1 by omega, Nat.pow_succ]; exact Nat.dvd_mul_left _ _), Nat.div_div_eq_div_mul, ← Nat.pow_add]
  rfl
theorem u8_ofNat {k : Nat} (h : k < 256) : (UInt8.ofNat k).toNat = k := by simp; omega
theorem dg_toNat (n j : Nat) : (dg n j).toNat = 48 + n / 10 ^ j % 10 := by
  unfold dg
  have : n / 10 ^ j % 10 < 10 := Nat.mod_lt _ (by omega)
  exact u8_ofNat (by omega)
theorem top_zero {n k : Nat} (h : n < 10 ^ (k + 1)) : n / 10 ^ k % 10 = 0 ↔ n < 10 ^ k := by
  have hp : 0 < 10 ^ k := Nat.pow_pos (by omega)
  have h1 : n / 10 ^ k < 10 := by rw [Nat.div_lt_iff_lt_mul hp, Nat.mul_comm, ← Nat.pow_succ]; exact h
  rw [Nat.mod_eq_of_lt h1, Nat.div_eq_zero_iff]
  constructor
  · rintro (h | h)
    · omega
    · exact h
  · exact .inr
theorem lt_pow_limbs (n : Nat) : n < 10 ^ (9 * (limbs n).length) := by rw [← ten9]; exact lt_pow_nl n
theorem nDigits_shift {n j : Nat} (h : 10 ^ j ≤ n) : nDigits n = j + nDigits (n / 10 ^ j) := by
  induction j generalizing n with
  | zero => simp
  | succ j ih =>
    have hp : 0 < 10 ^ j := Nat.pow_pos (by omega)
    rw [Nat.pow_succ] at h
    rw [nDigits_big (by omega), ih (n := n / 10) (by rw [Nat.le_div_iff_mul_le (by omega)]; exact h), Nat.pow_succ, Nat.mul_comm (10 ^ j), ← Nat.div_div_eq_div_mul]; omega
theorem nDigits_top {n : Nat} (h : n ≠ 0) : nDigits n = 9 * ((limbs n).length - 1) + nDigits ((limbs n).getD ((limbs n).length - 1) 0) := by
  have h1 := pow_le_of_nl h
  rw [ten9] at h1
  rw [limbs_getD, nDigits_shift h1, ten9, Nat.mod_eq_of_lt]; rfl
  rw [Nat.div_lt_iff_lt_mul (Nat.pow_pos (by omega))]
  have h2 := lt_pow_nl n
  have h3 : 0 < nl n := by
    rcases Nat.eq_zero_or_pos (nl n) with h0 | h0
    · rw [h0] at h2; simp at h2; omega
    · exact h0
  have e : (1000000000 : Nat) * 10 ^ (9 * ((limbs n).length - 1)) = 1000000000 ^ nl n := by
    rw [← ten9, Nat.mul_comm, ← Nat.pow_succ]; congr 1; show nl n - 1 + 1 = nl n; omega
  rw [e]; exact h2
def IsDig (l : List UInt8) : Prop := ∀ b ∈ l, 48 ≤ b.toNat ∧ b.toNat ≤ 57
def rdA (a : Nat) (l : List UInt8) : Nat := l.foldl (fun a b => 10 * a + (b.toNat - 48)) a
def rd (l : List UInt8) : Nat := rdA 0 l
theorem rdA_append (a : Nat) (l l' : List UInt8) : rdA a (l ++ l') = rdA (rdA a l) l' := by simp [rdA]
theorem rdA_eq (a : Nat) (l : List UInt8) : rdA a l = a * 10 ^ l.length + rd l := by
  induction l generalizing a with
  | nil => simp [rdA, rd]
  | cons b l ih =>
    have e1 : rdA a (b :: l) = rdA (10 * a + (b.toNat - 48)) l := rfl
    have e2 : rd (b :: l) = rdA (10 * 0 + (b.toNat - 48)) l := rfl
    rw [e1, e2, ih, ih (10 * 0 + (b.toNat - 48)), List.length_cons, Nat.pow_succ, Nat.mul_zero, Nat.zero_add, ← Nat.add_assoc]
    congr 1
    rw [Nat.add_mul]; congr 1
    rw [Nat.mul_comm 10 a, Nat.mul_assoc, Nat.mul_comm 10]
theorem rd_append (l l' : List UInt8) : rd (l ++ l') = rd l * 10 ^ l'.length + rd l' := by rw [rd, rdA_append, rdA_eq]; rfl
theorem rd_lt {l : List UInt8} (h : IsDig l) : rd l < 10 ^ l.length := by
  induction l with
  | nil => simp [rd, rdA]
  | cons b l ih =>
    have e2 : rd (b :: l) = rdA (10 * 0 + (b.toNat - 48)) l := rfl
    have hb := h b (by simp)
    have := ih fun x hx => h x (by simp [hx])
    rw [e2, rdA_eq, List.length_cons, Nat.pow_succ]
    have h2 : (10 * 0 + (b.toNat - 48)) * 10 ^ l.length ≤ 9 * 10 ^ l.length := Nat.mul_le_mul_right _ (by omega)
    omega
theorem dec_dig (n : Nat) : IsDig (decDigits n) := by
  rw [decDigits_eq]
  intro b hb
  simp only [List.mem_map] at hb
  obtain ⟨t, _, rfl⟩ := hb
  rw [dg_toNat]; have := Nat.mod_lt (n / 10 ^ (nDigits n - 1 - t)) (show 0 < 10 by omega); omega
theorem rd_dec (n : Nat) : rd (decDigits n) = n := by
  induction n using Nat.strongRecOn with
  | ind n ih =>
    rw [decDigits]
    by_cases h : n < 10
    · rw [dif_pos h]
      have : (UInt8.ofNat (48 + n)).toNat = 48 + n := u8_ofNat (by omega)
      show 10 * 0 + ((UInt8.ofNat (48 + n)).toNat - 48) = n
      omega
    · rw [dif_neg h, rd_append, ih _ (by omega)]
      have : (UInt8.ofNat (48 + n % 10)).toNat = 48 + n % 10 := u8_ofNat (by omega)
      show n / 10 * 10 ^ 1 + (10 * 0 + ((UInt8.ofNat (48 + n % 10)).toNat - 48)) = n
      omega
theorem dec_ne_nil (n : Nat) : decDigits n ≠ [] := by
  intro h; have := decDigits_length n; rw [h] at this; have := nDigits_pos n; simp at *; omega
theorem dec_head (n : Nat) : (decDigits n)[0]? = some (dg n (nDigits n - 1)) := by
  rw [decDigits_eq]; have h : 0 < nDigits n := nDigits_pos n; simp [h]
theorem pow_le_nDigits {n : Nat} (h : n ≠ 0) : 10 ^ (nDigits n - 1) ≤ n := by
  induction n using Nat.strongRecOn with
  | ind n ih =>
    by_cases h1 : n < 10
    · rw [nDigits_small h1]; simp; omega
    · rw [nDigits_big h1]
      have h2 := ih (n / 10) (by omega) (by omega)
      have h3 := nDigits_pos (n / 10)
      rw [show nDigits (n / 10) + 1 - 1 = (nDigits (n / 10) - 1) + 1 by omega, Nat.pow_succ]
      omega
theorem dec_first {n : Nat} (h : n ≠ 0) : 49 ≤ (dg n (nDigits n - 1)).toNat := by
  rw [dg_toNat]
  have h1 := nDigits_pos n
  have h2 := lt_pow_nDigits n
  rw [show nDigits n = (nDigits n - 1) + 1 by omega] at h2
  have h3 : ¬ _ := fun h0 => absurd ((top_zero h2).1 h0) (by have := pow_le_nDigits h; omega)
  omega
end Go.Proofs.YtldokelpolbnnaaGreatDoor
end
section
set_option linter.unusedSectionVars false
set_option linter.unusedVariables false
namespace Go.Proofs.YtldokelpolbnnaaGreatDoor
open Go.RowKit
theorem bigDigits0 {u : PH} {x : Value} {z : Int} (h : BigP u x z) (hs : nl z.natAbs ≤ 100000000000) : Fn0 Tryz.prog 115 [x] u fun v _ => v = .int .i64 (Lib.nDigits z.natAbs : Nat) := by
  obtain ⟨b, a, n, c, rfl, hb, hi⟩ := h.opn
  obtain ⟨rfl, _⟩ := hi.len
  have hs' : (limbs z.natAbs).length ≤ 100000000000 := hs
  refine Fn0.of Tryz.func115 (by kernel_rfl) (by kernel_rfl) ?_
  by_cases h0 : z.natAbs = 0
  · refine G.eqlT ((limbs z.natAbs).length : Int) 0 (by kernel_rfl) (by rw [h0, limbs_zero]; rfl) ?_
    exact G.ret (.int .i64 1) (by kernel_rfl) ⟨rfl, by rw [h0, Lib.nDigits_small (by omega)]; rfl⟩
  · have hp : 0 < (limbs z.natAbs).length := len_pos.2 (by omega)
    have htop := nDigits_top h0
    have hnz := getLast_limbs h0
    have hlow := (low_limbs z.natAbs).getD ((limbs z.natAbs).length - 1)
    generalize limbs z.natAbs = l at *
    generalize hN : Lib.nDigits z.natAbs = N at *
    have hle9 : ∀ k, k < 1000000000 → Lib.nDigits k ≤ 9 := by
      intro k hk
      rcases Nat.eq_zero_or_pos k with h | h
      · subst h; rw [Lib.nDigits_small (by omega)]; omega
      · have h1 := pow_le_nDigits (n := k) (by omega)
        have h2 : 10 ^ (Lib.nDigits k - 1) < 10 ^ 9 := Nat.lt_of_le_of_lt h1 (by omega)
        have h3 := (Nat.pow_lt_pow_iff_right (by omega : 1 < 10)).1 h2
        omega
    refine G.eqlF (l.length : Int) 0 (by kernel_rfl) (by omega) ?_
    refine G.sub (l.length : Int) 1 ((l.length - 1 : Nat) : Int) (by kernel_rfl) (by omega) (by omega) (by omega) ?_
    refine G.mul 9 ((l.length - 1 : Nat) : Int) ((9 * (l.length - 1) : Nat) : Int) (by kernel_rfl) (by omega) (by omega) (by omega) ?_
    refine G.sub (l.length : Int) 1 ((l.length - 1 : Nat) : Int) (by kernel_rfl) (by omega) (by omega) (by omega) ?_
    obtain ⟨bb, off, rfl, he⟩ := hi.at (j := l.length - 1) (by omega)
    refine G.addr bb off l.length c (l.length - 1) 1 (by kernel_rfl) (by omega) ?_
    refine G.loadU none bb (off + (l.length - 1) * 1) (.int .i64 (l.getD (l.length - 1) 0 : Nat)) (by kernel_rfl) (by kernel_rfl) he ?_
    have h9 := hle9 _ hlow
    refine G.loop (ι := Nat × Nat) (fun i => [(3, .v (.int .i64 (i.1 : Int))), (4, .v (.int .i64 (i.2 : Int)))]) (fun _ => [])
      (fun i _ m' => (i.1 + (if i.2 = 0 then 0 else Lib.nDigits i.2) = N ∧ i.2 < 1000000000) ∧ m' = PH.mt) (fun i => i.2) (9 * (l.length - 1), l.getD (l.length - 1) 0) (by kernel_rfl) (fun _ => by kernel_rfl) ⟨by kernel_rfl, by kernel_rfl, by kernel_rfl⟩ ⟨⟨by dsimp only; rw [if_neg hnz]; omega, hlow⟩, rfl⟩ ?_
    rintro J ⟨cn, k⟩ hJ u' m' hle ⟨⟨h1, h2⟩, rfl⟩
    simp only at h1 h2 hJ
    by_cases hk : k = 0
    · subst hk
      refine G.gtrF ((0 : Nat) : Int) 0 (by kernel_rfl) (by omega) ?_
      exact G.ret (.int .i64 (cn : Int)) (by kernel_rfl) ⟨rfl, by simp at h1; rw [h1]⟩
    · rw [if_neg hk] at h1
      refine G.gtrT (k : Int) 0 (by kernel_rfl) (by omega) ?_
      have hcn : cn + 1 ≤ 1000000000001 := by omega
      refine G.add (cn : Int) 1 ((cn + 1 : Nat) : Int) (by kernel_rfl) (by omega) (by omega) (by omega) ?_
      refine G.quo (k : Int) 10 ((k / 10 : Nat) : Int) (by kernel_rfl) (by omega) (by omega) (by omega) (by omega) ?_
      refine G.back (by kernel_rfl) (hJ (cn + 1, k / 10) _ _ _ ⟨by kernel_rfl, by kernel_rfl, by kernel_rfl⟩ hle ⟨⟨?_, by dsimp only; omega⟩, rfl⟩ (by dsimp only; omega))
      dsimp only
      by_cases hs : k < 10
      · rw [Lib.nDigits_small hs] at h1; rw [if_pos (by omega)]; omega
      · rw [Lib.nDigits_big hs] at h1; rw [if_neg (by omega)]; omega
structure RevSt (R l : List UInt8) (i : Nat) : Prop where
  len : l.length = R.length
  at_ : ∀ k, k < R.length → l[k]? = if k < i ∨ R.length - i ≤ k then R[R.length - 1 - k]? else R[k]?
theorem RevSt.start (R : List UInt8) : RevSt R R 0 := ⟨rfl, fun k hk => by rw [if_neg (by omega)]⟩
theorem RevSt.step {R l : List UInt8} {i : Nat} (h : RevSt R l i) (hi : i < R.length - 1 - i) : RevSt R ((l.set i (l.getD (R.length - 1 - i) 0)).set (R.length - 1 - i) (l.getD i 0)) (i + 1) := by
  have hl := h.len
  have e1 : l.getD (R.length - 1 - i) 0 = R.getD (R.length - 1 - i) 0 := by
    rw [List.getD_eq_getElem?_getD, h.at_ _ (by omega), if_neg (by omega), List.getD_eq_getElem?_getD]
  have e2 : l.getD i 0 = R.getD i 0 := by
    rw [List.getD_eq_getElem?_getD, h.at_ _ (by omega), if_neg (by omega), List.getD_eq_getElem?_getD]
  refine ⟨by simp [hl], fun k hk => ?_⟩
  rw [List.getElem?_set]
  split
  · rename_i hk2
    subst hk2
    rw [if_pos (by simp; omega), if_pos (by omega), e2, show R.length - 1 - (R.length - 1 - i) = i by omega, List.getElem?_eq_getElem (by omega)]
    rw [List.getD_eq_getElem?_getD, List.getElem?_eq_getElem (by omega)]; rfl
  · rename_i hk2
    rw [List.getElem?_set]
    split
    · rename_i hk3
      subst hk3
      rw [if_pos (by omega), if_pos (by omega), e1]
      rw [List.getD_eq_getElem?_getD, List.getElem?_eq_getElem (by omega)]; rfl
    · rename_i hk3
      rw [h.at_ k hk]
      by_cases hc : k < i ∨ R.length - i ≤ k
      · rw [if_pos hc, if_pos (by omega)]
      · rw [if_neg hc, if_neg (by omega)]
theorem RevSt.done {R l : List UInt8} {i : Nat} (h : RevSt R l i) (hi : ¬ i < R.length - 1 - i) : l = R.reverse := by
  apply List.ext_getElem?
  intro k
  by_cases hk : k < R.length
  · rw [h.at_ k hk, List.getElem?_reverse hk]
    split
    · rfl
    · rename_i hc
      congr 1; omega
  · rw [List.getElem?_eq_none (by rw [h.len]; omega), List.getElem?_eq_none (by simp; omega)]
theorem bytesV_get {l : List UInt8} {j : Nat} (h : j < l.length) : (bytesV l)[j]? = some (.int .u8 ((l.getD j 0).toNat : Int)) := by
  rw [bytesV, List.getElem?_map, List.getElem?_eq_getElem h, List.getD_eq_getElem?_getD, List.getElem?_eq_getElem h]; rfl
theorem bytesV_set (l : List UInt8) (j : Nat) (b : UInt8) : (bytesV l).set j (.int .u8 (b.toNat : Int)) = bytesV (l.set j b) := by simp [bytesV, List.map_set]
theorem itoa_neg {z : Int} (h : z < 0) : Lib.itoa z = 45 :: Lib.decDigits z.natAbs := by rw [Lib.itoa, if_pos h]
theorem itoa_nonneg {z : Int} (h : ¬ z < 0) : Lib.itoa z = Lib.decDigits z.natAbs := by rw [Lib.itoa, if_neg h]; congr 1; omega
set_option maxHeartbeats 2000000 in
theorem bigText0 {u : PH} {x : Value} {z : Int} (h : BigP u x z) (hs : nl z.natAbs ≤ 100000000000) : Fn0 Tryz.prog 112 [x] u fun v _ => v = .string (mkS (Lib.itoa z)) := by
  obtain ⟨b, a, n, c, rfl, hb, hi⟩ := h.opn
  obtain ⟨rfl, _⟩ := hi.len
  have hs' : (limbs z.natAbs).length ≤ 100000000000 := hs
  refine Fn0.of Tryz.func112 (by kernel_rfl) (by kernel_rfl) ?_
  by_cases h0 : z.natAbs = 0
  · refine G.eqlT ((limbs z.natAbs).length : Int) 0 (by kernel_rfl) (by rw [h0, limbs_zero]; rfl) ?_
    exact G.ret (.string (mkS [48])) (by kernel_rfl) ⟨rfl, by rw [itoa_nonneg (by omega), h0, Lib.decDigits_one (by omega)]; rfl⟩
  have hp : 0 < (limbs z.natAbs).length := len_pos.2 (by omega)
  refine G.eqlF ((limbs z.natAbs).length : Int) 0 (by kernel_rfl) (by omega) ?_
  have hbd := lt_pow_limbs z.natAbs
  generalize hN : z.natAbs = N at *
  generalize hL : limbs N = l at *
  refine G.loop (ι := Nat × (Option Addr × Nat × Nat)) (fun i => [(1, .p 0 0), (3, .v (.slice i.2.1 i.2.2.1 i.2.2.2)), (4, .v (.int .i64 (i.1 : Int)))]) (fun _ => [(0, ⟨42, [.v (.bool b), .v (.slice a l.length c)]⟩)])
    (fun i _ m' => i.1 ≤ l.length ∧ ArrAt PH.mt m' (.slice i.2.1 i.2.2.1 i.2.2.2) 5 1 (bytesV (ld N (9 * i.1)))) (fun i => l.length - i.1) (0, (none, 0, 0)) (by kernel_rfl) (fun _ => by kernel_rfl) ⟨by kernel_rfl, by kernel_rfl, by kernel_rfl⟩ ⟨by simp, ArrAt.nil _ _ _⟩ ?_
  rintro J ⟨i, a1, n1, c1⟩ hJ u1 m1 hle ⟨hil, hA⟩
  simp only at hil hA hJ
  by_cases hlt : i < l.length
  · refine G.lssT (i : Int) (l.length : Int) (by kernel_rfl) (by omega) ?_
    obtain ⟨bb, off, rfl, he⟩ := (hi.mono hle).at (j := i) (by omega)
    refine G.addr bb off l.length c i 1 (by kernel_rfl) (by omega) ?_
    refine G.loadU none bb (off + i * 1) (.int .i64 (l.getD i 0 : Nat)) (by kernel_rfl) (by kernel_rfl) he ?_
    have hlow : l.getD i 0 < 1000000000 := by rw [← hL]; exact (low_limbs N).getD i
    refine G.loop (ι := Nat × (Option Addr × Nat × Nat)) (fun q => [(1, .p 0 0), (3, .v (.slice q.2.1 q.2.2.1 q.2.2.2)), (4, .v (.int .i64 (i : Int))), (5, .v (.int .i64 ((l.getD i 0 / 10 ^ q.1 : Nat) : Int))), (6, .v (.int .i64 (q.1 : Int)))]) (fun _ => [(0, ⟨42, [.v (.bool b), .v (.slice (some ⟨bb, off, none⟩) l.length c)]⟩)])
      (fun q _ m' => q.1 ≤ 9 ∧ ArrAt PH.mt m' (.slice q.2.1 q.2.2.1 q.2.2.2) 5 1 (bytesV (ld N (9 * i + q.1)))) (fun q => 9 - q.1) (0, (a1, n1, c1)) (by kernel_rfl) (fun _ => by kernel_rfl) ⟨by kernel_rfl, by rw [Nat.pow_zero, Nat.div_one]; kernel_rfl, by kernel_rfl⟩ ⟨by simp, hA⟩ ?_
    clear hA
    rintro J2 ⟨t, a2, n2, c2⟩ hJ2 u2 m2 hle2 ⟨ht, hA⟩
    simp only at ht hA hJ2
    have hl2 := hA.len
    rw [bytesV_length, ld_length] at hl2
    by_cases ht9 : t < 9
    · refine G.lssT (t : Int) 9 (by kernel_rfl) (by omega) ?_
      have hdv : l.getD i 0 / 10 ^ t < 1000000000 := Nat.lt_of_le_of_lt (Nat.div_le_self _ _) hlow
      have hdg : (Lib.dg N (9 * i + t)).toNat = 48 + l.getD i 0 / 10 ^ t % 10 := by
        rw [dg_limb N i t ht9, hL]; exact u8_ofNat (by omega)
      generalize hD : l.getD i 0 / 10 ^ t = D at hdv hdg ⊢
      refine G.rem ((D : Nat) : Int) 10 ((D % 10 : Nat) : Int) (by kernel_rfl) (by omega) (by omega) (by omega) (by omega) ?_
      refine G.add 48 ((D % 10 : Nat) : Int) ((Lib.dg N (9 * i + t)).toNat : Int) (by kernel_rfl) (by omega) (by omega) (by omega) ?_
      refine G.convI .i64 .u8 .i64 ((Lib.dg N (9 * i + t)).toNat : Int) ((Lib.dg N (9 * i + t)).toNat : Int) (by kernel_rfl) (u8_wrap (by omega) (by omega)) ?_
      refine G.buildU 5 1 1 (.int .u8 0) [.int .u8 ((Lib.dg N (9 * i + t)).toNat : Int)] (by kernel_rfl) (bytesV_ok [Lib.dg N (9 * i + t)]) rfl (by omega) (by simp) (by simp) ?_
      intro g u3 l3 e3
      refine G.append 5 1 1 (.int .u8 0) PH.mt (bytesV (ld N (9 * i + t))) [.int .u8 ((Lib.dg N (9 * i + t)).toNat : Int)] (.slice a2 n2 c2) g 0 1 1 (by kernel_rfl) rfl rfl (by omega) hA e3 (bytesV_ok [Lib.dg N (9 * i + t)]) rfl (by omega) (by rw [bytesV_length, ld_length]; omega) (by rw [bytesV_length, ld_length]; omega) ?_
      intro v4 m4 hA4
      rw [show bytesV (ld N (9 * i + t)) ++ [.int .u8 ((Lib.dg N (9 * i + t)).toNat : Int)] = bytesV (ld N (9 * i + (t + 1))) by rw [show 9 * i + (t + 1) = 9 * i + t + 1 by omega, ld_succ, bytesV_append]; rfl] at hA4
      obtain ⟨a4, c4, rfl⟩ := hA4.shape
      refine G.quo ((D : Nat) : Int) 10 ((l.getD i 0 / 10 ^ (t + 1) : Nat) : Int) (by kernel_rfl) (by omega) (by omega) (by omega) (by rw [Nat.pow_succ, ← Nat.div_div_eq_div_mul, hD]; omega) ?_
      refine G.add (t : Int) 1 ((t + 1 : Nat) : Int) (by kernel_rfl) (by omega) (by omega) (by omega) ?_
      exact G.back (by kernel_rfl) (hJ2 (t + 1, (a4, (bytesV (ld N (9 * i + (t + 1)))).length, c4)) _ _ _ ⟨by kernel_rfl, by kernel_rfl, by kernel_rfl⟩ (hle2.trans l3) ⟨by dsimp only; omega, hA4⟩ (by dsimp only; omega))
    · have : t = 9 := by omega
      subst this
      refine G.lssF ((9 : Nat) : Int) 9 (by kernel_rfl) (by omega) ?_
      refine G.add (i : Int) 1 ((i + 1 : Nat) : Int) (by kernel_rfl) (by omega) (by omega) (by omega) ?_
      exact G.back (by kernel_rfl) (hJ (i + 1, (a2, n2, c2)) _ _ _ ⟨by kernel_rfl, by kernel_rfl, by kernel_rfl⟩ (hle.trans hle2) ⟨by dsimp only; omega, hA⟩ (by dsimp only; omega))
  · have : i = l.length := by omega
    subst this
    refine G.lssF (l.length : Int) (l.length : Int) (by kernel_rfl) (by omega) ?_
    obtain ⟨bo, co, e⟩ := hA.ptr (by intro e; have := congrArg List.length e; rw [bytesV_length, ld_length, List.length_nil] at this; omega)
    rw [bytesV_length, ld_length] at e
    simp only [Value.slice.injEq] at e
    obtain ⟨rfl, rfl, rfl⟩ := e
    refine G.loop (ι := Nat) (fun k => [(1, .p 0 0), (3, .v (.slice (some ⟨bo, 0, none⟩) (k + 1) c1))]) (fun _ => [(0, ⟨42, [.v (.bool b), .v (.slice a l.length c)]⟩)])
      (fun k _ m' => (N < 10 ^ (k + 1) ∧ k + 1 ≤ 9 * l.length) ∧ ArrAt PH.mt m' (.slice (some ⟨bo, 0, none⟩) (k + 1) c1) 5 1 (bytesV (ld N (k + 1)))) (fun k => k) (9 * l.length - 1) (by kernel_rfl) (fun _ => by kernel_rfl) ⟨by kernel_rfl, by rw [show 9 * l.length - 1 + 1 = 9 * l.length by omega]; kernel_rfl, by kernel_rfl⟩ (by rw [show 9 * l.length - 1 + 1 = 9 * l.length by omega]; exact ⟨⟨hbd, Nat.le_refl _⟩, hA⟩) ?_
    clear hA hJ
    rintro J3 k hJ3 u3 m3 hle3 ⟨⟨hk, hk2⟩, hA⟩
    refine G.sub ((k + 1 : Nat) : Int) 1 (k : Int) (by kernel_rfl) (by omega) (by omega) (by omega) ?_
    refine G.addr bo 0 (k + 1) c1 k 1 (by kernel_rfl) (by omega) ?_
    refine G.loadM none bo (0 + k * 1) (.int .u8 ((Lib.dg N k).toNat : Int)) (by kernel_rfl) (by kernel_rfl) (hA.el (by rw [bytesV, List.getElem?_map, ld_get (by omega)]; rfl)) ?_
    have htz := top_zero hk
    have hdn := dg_toNat N k
    by_cases hz : N < 10 ^ k
    · refine G.cmpG .eql .u8 ((Lib.dg N k).toNat : Int) 48 true (by kernel_rfl) rfl (by simp only [cmpZ, decide_eq_true_eq]; have := htz.2 hz; omega) ?_
      refine G.sub ((k + 1 : Nat) : Int) 1 (k : Int) (by kernel_rfl) (by omega) (by omega) (by omega) ?_
      have hco : k + 1 ≤ c1 := hA.cap
      refine G.sliceTo 1 (some ⟨bo, 0, none⟩) (k + 1) c1 k (by kernel_rfl) (by omega) ?_
      have hA' := hA.take (k := k) (by rw [bytesV_length, ld_length]; omega)
      rw [show (bytesV (ld N (k + 1))).take k = bytesV (ld N k) by rw [bytesV, ← List.map_take, ld_take (by omega)]; rfl] at hA'
      rcases k with _ | k
      · simp at hz; omega
      · exact G.back (by kernel_rfl) (hJ3 k _ _ _ ⟨by kernel_rfl, by kernel_rfl, by kernel_rfl⟩ hle3 ⟨⟨hz, by omega⟩, hA'⟩ (by omega))
    · refine G.cmpG .eql .u8 ((Lib.dg N k).toNat : Int) 48 false (by kernel_rfl) rfl (by simp only [cmpZ, decide_eq_false_iff_not]; intro h; exact hz (htz.1 (by omega))) ?_
      have hkd : Lib.nDigits N = k + 1 := Lib.nDigits_unique k N (by omega) hk
      clear hJ3
      have hdr := ld_rev N
      rw [hkd] at hdr
      cases b
      · have hzn : ¬ z < 0 := by simpa using hb.symm
        have hrev : (ld N (k + 1)).reverse = Lib.itoa z := by rw [hdr, itoa_nonneg hzn, hN]
        generalize hR : ld N (k + 1) = R at *
        generalize hnR : k + 1 = nR at *
        have hnb : nR ≤ 1000000000000 := by omega
        have hn1 : 1 ≤ nR := by omega
        have hRl := hA.len
        rw [bytesV_length] at hRl
        refine G.sub (nR : Int) 1 ((nR - 1 : Nat) : Int) (by kernel_rfl) (by omega) (by omega) (by omega) ?_
        refine G.loop (ι := Nat × List UInt8) (fun i => [(3, .v (.slice (some ⟨bo, 0, none⟩) nR c1)), (7, .v (.int .i64 (i.1 : Int))), (8, .v (.int .i64 ((nR - 1 - i.1 : Nat) : Int)))]) (fun _ => [])
          (fun i _ m' => i.1 ≤ nR - 1 ∧ RevSt R i.2 i.1 ∧ ArrAt PH.mt m' (.slice (some ⟨bo, 0, none⟩) nR c1) 5 1 (bytesV i.2)) (fun i => nR - i.1) (0, R) (by kernel_rfl) (fun _ => by kernel_rfl) ⟨by kernel_rfl, by kernel_rfl, by kernel_rfl⟩ ⟨by simp, RevSt.start R, hA⟩ ?_
        clear hA
        rintro J5 ⟨i, l⟩ hJ5 u5 m5 hle5 ⟨hi5, hst, hA⟩
        simp only at hi5 hst hA hJ5
        have hll := hst.len
        by_cases hij : i < nR - 1 - i
        · refine G.lssT (i : Int) ((nR - 1 - i : Nat) : Int) (by kernel_rfl) (by omega) ?_
          refine G.addr bo 0 nR c1 (nR - 1 - i) 1 (by kernel_rfl) (by omega) ?_
          refine G.loadM none bo (0 + (nR - 1 - i) * 1) (.int .u8 ((l.getD (nR - 1 - i) 0).toNat : Int)) (by kernel_rfl) (by kernel_rfl) (hA.el (bytesV_get (by omega))) ?_
          refine G.addr bo 0 nR c1 i 1 (by kernel_rfl) (by omega) ?_
          refine G.loadM none bo (0 + i * 1) (.int .u8 ((l.getD i 0).toNat : Int)) (by kernel_rfl) (by kernel_rfl) (hA.el (bytesV_get (by omega))) ?_
          refine G.addr bo 0 nR c1 i 1 (by kernel_rfl) (by omega) ?_
          refine G.storeA 1 PH.mt (bytesV l) bo nR c1 i (.int .u8 ((l.getD (nR - 1 - i) 0).toNat : Int)) (by kernel_rfl) hA (by rw [bytesV_length]; omega) rfl rfl ?_
          intro m6 hA6
          rw [bytesV_set] at hA6
          refine G.addr bo 0 nR c1 (nR - 1 - i) 1 (by kernel_rfl) (by omega) ?_
          refine G.storeA 1 PH.mt _ bo nR c1 (nR - 1 - i) (.int .u8 ((l.getD i 0).toNat : Int)) (by kernel_rfl) hA6 (by rw [bytesV_length, List.length_set]; omega) rfl rfl ?_
          intro m7 hA7
          rw [bytesV_set] at hA7
          refine G.add (i : Int) 1 ((i + 1 : Nat) : Int) (by kernel_rfl) (by omega) (by omega) (by omega) ?_
          refine G.sub ((nR - 1 - i : Nat) : Int) 1 ((nR - 1 - (i + 1) : Nat) : Int) (by kernel_rfl) (by omega) (by omega) (by omega) ?_
          exact G.back (by kernel_rfl) (hJ5 (i + 1, (l.set i (l.getD (nR - 1 - i) 0)).set (nR - 1 - i) (l.getD i 0)) _ _ _ ⟨by kernel_rfl, by kernel_rfl, by kernel_rfl⟩ hle5 ⟨by dsimp only; omega, by dsimp only; rw [hRl] at hij ⊢; exact hst.step hij, hA7⟩ (by dsimp only; omega))
        · refine G.lssF (i : Int) ((nR - 1 - i : Nat) : Int) (by kernel_rfl) (by omega) ?_
          have hlR := hst.done (by rw [← hRl]; exact hij)
          refine G.convB PH.mt 5 5 l bo nR c1 (by kernel_rfl) (by kernel_rfl) hA ?_
          refine G.give PH.mt (bytesV l) _ (by kernel_rfl) hA (fun _ => .inl rfl) ?_
          intro u8 l8 _
          refine G.ret (.string (mkS l)) (by kernel_rfl) ⟨rfl, ?_⟩
          rw [hlR, hrev]
      · have hzn : z < 0 := by simpa using hb.symm
        refine G.buildU 5 1 1 (.int .u8 0) [.int .u8 45] (by kernel_rfl) (bytesV_ok [45]) rfl (by omega) (by simp) (by simp) ?_
        intro g u4 l4 e4
        refine G.append 5 1 1 (.int .u8 0) PH.mt (bytesV (ld N (k + 1))) [.int .u8 45] (.slice (some ⟨bo, 0, none⟩) (k + 1) c1) g 0 1 1 (by kernel_rfl) rfl rfl (by omega) hA e4 (bytesV_ok [45]) rfl (by omega) (by rw [bytesV_length, ld_length]; omega) (by rw [bytesV_length, ld_length]; omega) ?_
        intro v5 m5 hA5
        rw [show bytesV (ld N (k + 1)) ++ [.int .u8 45] = bytesV (ld N (k + 1) ++ [45]) by rw [bytesV_append]; rfl] at hA5
        obtain ⟨bR, cR, rfl⟩ := hA5.ptr (by simp [bytesV])
        rw [bytesV_length, List.length_append, ld_length, List.length_singleton] at hA5 ⊢
        have hrev : (ld N (k + 1) ++ [45]).reverse = Lib.itoa z := by rw [List.reverse_append, hdr, itoa_neg hzn, hN]; rfl
        clear hA
        have hA := hA5
        clear hA5
        have hlR : (ld N (k + 1) ++ [45]).length = k + 1 + 1 := by rw [List.length_append, ld_length]; rfl
        generalize hR : ld N (k + 1) ++ [45] = R at *
        generalize hnR : k + 1 + 1 = nR at *
        have hnb : nR ≤ 1000000000000 := by omega
        have hn1 : 1 ≤ nR := by omega
        have hRl := hA.len
        rw [bytesV_length] at hRl
        refine G.sub (nR : Int) 1 ((nR - 1 : Nat) : Int) (by kernel_rfl) (by omega) (by omega) (by omega) ?_
        refine G.loop (ι := Nat × List UInt8) (fun i => [(3, .v (.slice (some ⟨bR, 0, none⟩) nR cR)), (7, .v (.int .i64 (i.1 : Int))), (8, .v (.int .i64 ((nR - 1 - i.1 : Nat) : Int)))]) (fun _ => [])
          (fun i _ m' => i.1 ≤ nR - 1 ∧ RevSt R i.2 i.1 ∧ ArrAt PH.mt m' (.slice (some ⟨bR, 0, none⟩) nR cR) 5 1 (bytesV i.2)) (fun i => nR - i.1) (0, R) (by kernel_rfl) (fun _ => by kernel_rfl) ⟨by kernel_rfl, by kernel_rfl, by kernel_rfl⟩ ⟨by simp, RevSt.start R, hA⟩ ?_
        clear hA
        rintro J5 ⟨i, l⟩ hJ5 u5 m5 hle5 ⟨hi5, hst, hA⟩
        simp only at hi5 hst hA hJ5
        have hll := hst.len
        by_cases hij : i < nR - 1 - i
        · refine G.lssT (i : Int) ((nR - 1 - i : Nat) : Int) (by kernel_rfl) (by omega) ?_
          refine G.addr bR 0 nR cR (nR - 1 - i) 1 (by kernel_rfl) (by omega) ?_
          refine G.loadM none bR (0 + (nR - 1 - i) * 1) (.int .u8 ((l.getD (nR - 1 - i) 0).toNat : Int)) (by kernel_rfl) (by kernel_rfl) (hA.el (bytesV_get (by omega))) ?_
          refine G.addr bR 0 nR cR i 1 (by kernel_rfl) (by omega) ?_
          refine G.loadM none bR (0 + i * 1) (.int .u8 ((l.getD i 0).toNat : Int)) (by kernel_rfl) (by kernel_rfl) (hA.el (bytesV_get (by omega))) ?_
          refine G.addr bR 0 nR cR i 1 (by kernel_rfl) (by omega) ?_
          refine G.storeA 1 PH.mt (bytesV l) bR nR cR i (.int .u8 ((l.getD (nR - 1 - i) 0).toNat : Int)) (by kernel_rfl) hA (by rw [bytesV_length]; omega) rfl rfl ?_
          intro m6 hA6
          rw [bytesV_set] at hA6
          refine G.addr bR 0 nR cR (nR - 1 - i) 1 (by kernel_rfl) (by omega) ?_
          refine G.storeA 1 PH.mt _ bR nR cR (nR - 1 - i) (.int .u8 ((l.getD i 0).toNat : Int)) (by kernel_rfl) hA6 (by rw [bytesV_length, List.length_set]; omega) rfl rfl ?_
          intro m7 hA7
          rw [bytesV_set] at hA7
          refine G.add (i : Int) 1 ((i + 1 : Nat) : Int) (by kernel_rfl) (by omega) (by omega) (by omega) ?_
          refine G.sub ((nR - 1 - i : Nat) : Int) 1 ((nR - 1 - (i + 1) : Nat) : Int) (by kernel_rfl) (by omega) (by omega) (by omega) ?_
          exact G.back (by kernel_rfl) (hJ5 (i + 1, (l.set i (l.getD (nR - 1 - i) 0)).set (nR - 1 - i) (l.getD i 0)) _ _ _ ⟨by kernel_rfl, by kernel_rfl, by kernel_rfl⟩ hle5 ⟨by dsimp only; omega, by dsimp only; rw [hRl] at hij ⊢; exact hst.step hij, hA7⟩ (by dsimp only; omega))
        · refine G.lssF (i : Int) ((nR - 1 - i : Nat) : Int) (by kernel_rfl) (by omega) ?_
          have hlR := hst.done (by rw [← hRl]; exact hij)
          refine G.convB PH.mt 5 5 l bR nR cR (by kernel_rfl) (by kernel_rfl) hA ?_
          refine G.give PH.mt (bytesV l) _ (by kernel_rfl) hA (fun _ => .inl rfl) ?_
          intro u8 l8 _
          refine G.ret (.string (mkS l)) (by kernel_rfl) ⟨rfl, ?_⟩
          rw [hlR, hrev]
theorem bigGive0 {u : PH} {x : Value} {z : Int} (h : BigP u x z) (hs : nl z.natAbs ≤ 100000000000) (hd : Lib.nDigits z.natAbs ≤ 400) : Fn0 Tryz.prog 79 [x] u fun v _ => v = .tuple #[.string (mkS (Lib.itoa z)), .int .i64 0] := by
  obtain ⟨b, a, n, c, rfl, hb, hi⟩ := h.opn
  refine Fn0.of Tryz.func79 (by kernel_rfl) (by kernel_rfl) ?_
  refine G.call0 _ _ (by kernel_rfl) Tryz.call115 (bigDigits0 h hs) ?_
  rintro v1 u1 l1 rfl
  refine G.gtrF ((Lib.nDigits z.natAbs : Nat) : Int) 400 (by kernel_rfl) (by omega) ?_
  refine G.call0 _ _ (by kernel_rfl) Tryz.call112 (bigText0 (h.mono l1) hs) ?_
  rintro v2 u2 l2 rfl
  exact G.ret _ (by kernel_rfl) ⟨rfl, rfl⟩
theorem nl_i64 {z : Int} (h1 : -9223372036854775807 ≤ z) (h2 : z ≤ 9223372036854775807) : nl z.natAbs ≤ 100000000000 := Nat.le_trans (nl_le_of_lt (k := 3) (by omega)) (by omega)
theorem bigMake0 {u : PH} {z : Int} (h1 : -9223372036854775807 ≤ z) (h2 : z ≤ 9223372036854775807) : Fn0 Tryz.prog 140 [.int .i64 z] u fun v _ => v = .string (mkS (Lib.itoa z)) := by
  refine Fn0.of Tryz.func140 (by kernel_rfl) (by kernel_rfl) ?_
  refine G.call0 _ _ (by kernel_rfl) Tryz.call38 (bigOf0 h1 h2) ?_
  intro v1 u1 l1 k1
  obtain ⟨b1, a1, n1, c1, rfl, _, _⟩ := k1.opn
  refine G.call0 _ _ (by kernel_rfl) Tryz.call112 (bigText0 k1 (nl_i64 h1 h2)) ?_
  rintro v2 u2 l2 rfl
  exact G.ret _ (by kernel_rfl) ⟨rfl, rfl⟩
theorem refWhole0 {u : PH} {z : Int} (h1 : -9223372036854775807 ≤ z) (h2 : z ≤ 9223372036854775807) : Fn0 Tryz.prog 100 [.int .i64 z] u fun v _ => v = .string (mkS (Lib.itoa z)) := by
  refine Fn0.of Tryz.func100 (by kernel_rfl) (by kernel_rfl) ?_
  refine G.call0 _ _ (by kernel_rfl) Tryz.call140 (bigMake0 h1 h2) ?_
  rintro v2 u2 l2 rfl
  exact G.ret _ (by kernel_rfl) ⟨rfl, rfl⟩
end Go.Proofs.YtldokelpolbnnaaGreatDoor
end
section
set_option linter.unusedSectionVars false
set_option linter.unusedVariables false
namespace Go.Proofs.YtldokelpolbnnaaGreatDoor
open Go.RowKit
theorem IsDig.drop {l : List UInt8} (h : IsDig l) (k : Nat) : IsDig (l.drop k) := fun b hb => h b (List.mem_of_mem_drop hb)
theorem IsDig.take {l : List UInt8} (h : IsDig l) (k : Nat) : IsDig (l.take k) := fun b hb => h b (List.mem_of_mem_take hb)
theorem take_succ_drop {l : List UInt8} {k j : Nat} (h : k + j < l.length) : (l.drop k).take (j + 1) = (l.drop k).take j ++ [l.getD (k + j) 0] := by
  rw [List.take_add_one]
  congr 1
  rw [List.getElem?_drop, List.getElem?_eq_getElem h, List.getD_eq_getElem?_getD, List.getElem?_eq_getElem h]; rfl
theorem rd_snoc (l : List UInt8) (b : UInt8) : rd (l ++ [b]) = 10 * rd l + (b.toNat - 48) := by simp [rd, rdA]
theorem getD_dig {l : List UInt8} (h : IsDig l) {k : Nat} (hk : k < l.length) : 48 ≤ (l.getD k 0).toNat ∧ (l.getD k 0).toNat ≤ 57 := by
  rw [List.getD_eq_getElem?_getD, List.getElem?_eq_getElem hk]; exact h _ (List.getElem_mem hk)
theorem get_of_getD {l : List UInt8} {k : Nat} (hk : k < l.length) : l[k]? = some (l.getD k 0) := by
  rw [List.getD_eq_getElem?_getD, List.getElem?_eq_getElem hk]; rfl
def signed (b : Bool) (l : List UInt8) : List UInt8 := if b then 45 :: l else l
structure ReadSt (N : Nat) (s : List UInt8) (ys : List Nat) : Prop where
  low : Low ys
  dig : IsDig s
  sum : N = val ys + 1000000000 ^ ys.length * rd s
theorem ReadSt.step {N : Nat} {s : List UInt8} {ys : List Nat} (h : ReadSt N s ys) : ReadSt N (s.take (s.length - 9)) (ys ++ [rd (s.drop (s.length - 9))]) := by
  have hl : rd (s.drop (s.length - 9)) < 1000000000 := by
    have := rd_lt (h.dig.drop (s.length - 9))
    rw [List.length_drop] at this
    exact Nat.lt_of_lt_of_le this (by rw [show (1000000000 : Nat) = 10 ^ 9 from rfl]; exact Nat.pow_le_pow_right (by omega) (by omega))
  refine ⟨h.low.append (Low.cons hl Low.nil), h.dig.take _, ?_⟩
  have e : rd s = rd (s.take (s.length - 9)) * 1000000000 + rd (s.drop (s.length - 9)) := by
    have := rd_append (s.take (s.length - 9)) (s.drop (s.length - 9))
    rw [List.take_append_drop] at this
    rw [this]
    by_cases h9 : 9 ≤ s.length
    · rw [List.length_drop, show s.length - (s.length - 9) = 9 by omega]
    · rw [show s.length - 9 = 0 by omega]; simp [rd, rdA]
  rw [val_snoc, List.length_append, List.length_singleton, Nat.pow_succ, h.sum, e, Nat.mul_add, Nat.mul_assoc, Nat.mul_comm (rd _) 1000000000]
  omega
theorem tail_pos {b : Bool} {l : List UInt8} (hd : IsDig l) (hl : l ≠ []) (h : ¬ b = true) : (signed b l).getD 0 0 ≠ 45 := by
  cases b
  · have h1 : 0 < l.length := by cases l; exact absurd rfl hl; simp
    have := getD_dig hd h1
    intro h2
    rw [show signed false l = l from rfl] at h2
    rw [h2] at this
    simp at this
  · exact absurd rfl h
set_option maxHeartbeats 2000000 in
theorem bigRead0 {u : PH} (b : Bool) (l : List UInt8) (hd : IsDig l) (hl : l ≠ []) (hlen : l.length ≤ 1000000000) : Fn0 Tryz.prog 54 [.string (mkS (signed b l))] u fun v u' => BigP u' v (sgnd b (rd l)) := by
  have hl0 : 0 < l.length := by cases l; exact absurd rfl hl; simp
  refine Fn0.of Tryz.func54 (by kernel_rfl) (by kernel_rfl) ?_
  have hne : signed b l ≠ [] := by cases b <;> simp [signed, hl]
  refine G.neST (signed b l) [] (by kernel_rfl) hne ?_
  have h00 : (signed b l)[0]? = some ((signed b l).getD 0 0) := get_of_getD (by cases b <;> simp [signed]; omega)
  refine G.idxS (signed b l) 0 _ (by kernel_rfl) h00 ?_
  cases b
  · have hne := tail_pos (b := false) hd hl (by simp)
    refine G.cmpG .eql .u8 (((signed false l).getD 0 0).toNat : Int) 45 false (by kernel_rfl) rfl (by simp only [cmpZ, decide_eq_false_iff_not]; intro h; exact hne (UInt8.toNat_inj.1 (by simpa using (by omega : ((signed false l).getD 0 0).toNat = 45)))) ?_
    refine G.loop (ι := List UInt8 × List Nat × (Option Addr × Nat × Nat)) (fun i => [(2, .p 0 0), (3, .v (.string (mkS i.1))), (4, .p 2001 0)])
      (fun i => [(0, ⟨42, [.v (.bool false), .v (.slice none 0 0)]⟩), (2001, ⟨42, [.v (.bool false), .v (.slice i.2.2.1 i.2.2.2.1 i.2.2.2.2)]⟩)])
      (fun i _ m' => i.1.length + i.2.1.length ≤ l.length ∧ ReadSt (rd l) i.1 i.2.1 ∧ ArrAt PH.mt m' (.slice i.2.2.1 i.2.2.2.1 i.2.2.2.2) 3 1 (intsV i.2.1)) (fun i => i.1.length) (l, [], (none, 0, 0)) (by kernel_rfl) (fun _ => by kernel_rfl) ⟨by kernel_rfl, by kernel_rfl, by kernel_rfl⟩ ⟨by simp, ⟨Low.nil, hd, by simp [val]⟩, ArrAt.nil _ _ _⟩ ?_
    rintro J ⟨s, ys, ⟨a, ny, c⟩⟩ hJ u' m' hle ⟨hsz, hst, hA⟩
    simp only at hsz hst hA hJ
    have hys := hA.len
    rw [intsV_length] at hys
    have hsd := hst.dig
    have hss : (mkS s).size = s.length := Go.Lib.size_mk s
    by_cases h0 : 0 < s.length
    · refine G.gtrT (s.length : Int) 0 (by kernel_rfl) (by omega) ?_
      refine G.sub (s.length : Int) 9 ((s.length : Int) - 9) (by kernel_rfl) rfl (by omega) (by omega) ?_
      refine G.maxI [3, 3] 0 ((s.length : Int) - 9) ((s.length - 9 : Nat) : Int) (by kernel_rfl) (by omega) ?_
      refine G.loop (ι := Nat) (fun i => [(2, .p 0 0), (3, .v (.string (mkS s))), (4, .p 2001 0), (5, .v (.int .i64 ((s.length - 9 : Nat) : Int))), (6, .v (.int .i64 ((rd ((s.drop (s.length - 9)).take i) : Nat) : Int))), (7, .v (.int .i64 ((s.length - 9 + i : Nat) : Int)))])
        (fun _ => [(0, ⟨42, [.v (.bool false), .v (.slice none 0 0)]⟩), (2001, ⟨42, [.v (.bool false), .v (.slice a ny c)]⟩)])
        (fun i _ m' => s.length - 9 + i ≤ s.length ∧ ArrAt PH.mt m' (.slice a ny c) 3 1 (intsV ys)) (fun i => s.length - i) 0 (by kernel_rfl) (fun _ => by kernel_rfl) ⟨by kernel_rfl, by rw [List.take_zero]; kernel_rfl, by kernel_rfl⟩ ⟨by omega, hA⟩ ?_
      clear hA
      rintro J2 i hJ2 u2 m2 hle2 ⟨hi, hA⟩
      by_cases hlt : s.length - 9 + i < s.length
      · refine G.lssT ((s.length - 9 + i : Nat) : Int) (s.length : Int) (by kernel_rfl) (by omega) ?_
        have hb9 : rd ((s.drop (s.length - 9)).take (i + 1)) < 1000000000 := by
          have := rd_lt ((hsd.drop (s.length - 9)).take (i + 1))
          refine Nat.lt_of_lt_of_le this ?_
          rw [show (1000000000 : Nat) = 10 ^ 9 from rfl]
          exact Nat.pow_le_pow_right (by omega) (by simp; omega)
        have hdg := getD_dig hsd hlt
        rw [take_succ_drop hlt, rd_snoc] at hb9
        refine G.mul 10 ((rd ((s.drop (s.length - 9)).take i) : Nat) : Int) ((10 * rd ((s.drop (s.length - 9)).take i) : Nat) : Int) (by kernel_rfl) (by omega) (by omega) (by omega) ?_
        refine G.idxS s (s.length - 9 + i) _ (by kernel_rfl) (get_of_getD hlt) ?_
        refine G.sub8 ((s.getD (s.length - 9 + i) 0).toNat : Int) 48 (((s.getD (s.length - 9 + i) 0).toNat - 48 : Nat) : Int) (by kernel_rfl) (by omega) (by omega) (by omega) ?_
        refine G.convI .u8 .i64 .u8 (((s.getD (s.length - 9 + i) 0).toNat - 48 : Nat) : Int) (((s.getD (s.length - 9 + i) 0).toNat - 48 : Nat) : Int) (by kernel_rfl) (i64_wrap (by omega) (by omega)) ?_
        refine G.add ((10 * rd ((s.drop (s.length - 9)).take i) : Nat) : Int) (((s.getD (s.length - 9 + i) 0).toNat - 48 : Nat) : Int) ((rd ((s.drop (s.length - 9)).take (i + 1)) : Nat) : Int) (by kernel_rfl) (by rw [take_succ_drop hlt, rd_snoc]; omega) (by omega) (by rw [take_succ_drop hlt, rd_snoc]; omega) ?_
        refine G.add ((s.length - 9 + i : Nat) : Int) 1 ((s.length - 9 + (i + 1) : Nat) : Int) (by kernel_rfl) (by omega) (by omega) (by omega) ?_
        exact G.back (by kernel_rfl) (hJ2 (i + 1) _ _ _ ⟨by kernel_rfl, by kernel_rfl, by kernel_rfl⟩ hle2 ⟨by omega, hA⟩ (by omega))
      · refine G.lssF ((s.length - 9 + i : Nat) : Int) (s.length : Int) (by kernel_rfl) (by omega) ?_
        have htk : (s.drop (s.length - 9)).take i = s.drop (s.length - 9) := List.take_of_length_le (by simp; omega)
        rw [htk]
        have hstep := hst.step
        have hsl : (s.take (s.length - 9)).length = s.length - 9 := by simp
        generalize rd (s.drop (s.length - 9)) = d at hstep ⊢
        refine G.buildU 3 1 8 (.int .i64 0) [.int .i64 (d : Int)] (by kernel_rfl) (intsV_ok [d]) rfl (by omega) (by simp) (by simp) ?_
        intro g u3 l3 e3
        refine G.append 3 1 8 (.int .i64 0) PH.mt (intsV ys) [.int .i64 (d : Int)] (.slice a ny c) g 0 1 1 (by kernel_rfl) rfl rfl (by omega) hA e3 (intsV_ok [d]) rfl (by omega) (by rw [intsV_length]; omega) (by rw [intsV_length]; omega) ?_
        intro v4 m4 hA4
        rw [intsV_snoc] at hA4
        obtain ⟨a4, c4, rfl⟩ := hA4.shape
        refine G.sliceSTo s (s.length - 9) (by kernel_rfl) (by kernel_rfl) (by omega) ?_
        exact G.back (by kernel_rfl) (hJ (s.take (s.length - 9), ys ++ [d], (a4, (intsV (ys ++ [d])).length, c4)) _ _ _ ⟨by kernel_rfl, by kernel_rfl, by kernel_rfl⟩ ((hle.trans hle2).trans l3) ⟨by dsimp only; rw [hsl, List.length_append, List.length_singleton]; omega, hstep, hA4⟩ (by dsimp only; rw [hsl]; omega))
    · have hs0 : s = [] := List.eq_nil_of_length_eq_zero (by omega)
      subst hs0
      refine G.gtrF ((0 : Nat) : Int) 0 (by kernel_rfl) (by omega) ?_
      refine G.give PH.mt (intsV ys) _ (by kernel_rfl) hA (fun _ => .inl rfl) ?_
      intro u3 l3 hL
      refine G.call0 _ _ (by kernel_rfl) Tryz.call96 (bigTrimB (b := false) (a := a) (n := ny) (c := c) (l := ys) hL hst.low (by omega)) ?_
      intro v5 u5 l5 k5
      have hv : val ys = rd l := by have := hst.sum; simpa [rd, rdA] using this.symm
      rw [hv] at k5
      obtain ⟨b5, a5, n5, c5, rfl, _, _⟩ := k5.opn
      exact G.ret (.agg #[.bool b5, .slice a5 n5 c5]) (by kernel_rfl) ⟨rfl, k5⟩
  · refine G.cmpG .eql .u8 (((signed true l).getD 0 0).toNat : Int) 45 true (by kernel_rfl) rfl (by simp [cmpZ, signed]) ?_
    refine G.sliceSFrom (signed true l) 1 (by kernel_rfl) (by kernel_rfl) (by simp [signed]) ?_
    rw [show (signed true l).drop 1 = l from rfl]
    refine G.loop (ι := List UInt8 × List Nat × (Option Addr × Nat × Nat)) (fun i => [(2, .p 0 0), (3, .v (.string (mkS i.1))), (4, .p 2001 0)])
      (fun i => [(0, ⟨42, [.v (.bool false), .v (.slice none 0 0)]⟩), (2001, ⟨42, [.v (.bool true), .v (.slice i.2.2.1 i.2.2.2.1 i.2.2.2.2)]⟩)])
      (fun i _ m' => i.1.length + i.2.1.length ≤ l.length ∧ ReadSt (rd l) i.1 i.2.1 ∧ ArrAt PH.mt m' (.slice i.2.2.1 i.2.2.2.1 i.2.2.2.2) 3 1 (intsV i.2.1)) (fun i => i.1.length) (l, [], (none, 0, 0)) (by kernel_rfl) (fun _ => by kernel_rfl) ⟨by kernel_rfl, by kernel_rfl, by kernel_rfl⟩ ⟨by simp, ⟨Low.nil, hd, by simp [val]⟩, ArrAt.nil _ _ _⟩ ?_
    rintro J ⟨s, ys, ⟨a, ny, c⟩⟩ hJ u' m' hle ⟨hsz, hst, hA⟩
    simp only at hsz hst hA hJ
    have hys := hA.len
    rw [intsV_length] at hys
    have hsd := hst.dig
    have hss : (mkS s).size = s.length := Go.Lib.size_mk s
    by_cases h0 : 0 < s.length
    · refine G.gtrT (s.length : Int) 0 (by kernel_rfl) (by omega) ?_
      refine G.sub (s.length : Int) 9 ((s.length : Int) - 9) (by kernel_rfl) rfl (by omega) (by omega) ?_
      refine G.maxI [3, 3] 0 ((s.length : Int) - 9) ((s.length - 9 : Nat) : Int) (by kernel_rfl) (by omega) ?_
      refine G.loop (ι := Nat) (fun i => [(2, .p 0 0), (3, .v (.string (mkS s))), (4, .p 2001 0), (5, .v (.int .i64 ((s.length - 9 : Nat) : Int))), (6, .v (.int .i64 ((rd ((s.drop (s.length - 9)).take i) : Nat) : Int))), (7, .v (.int .i64 ((s.length - 9 + i : Nat) : Int)))])
        (fun _ => [(0, ⟨42, [.v (.bool false), .v (.slice none 0 0)]⟩), (2001, ⟨42, [.v (.bool true), .v (.slice a ny c)]⟩)])
        (fun i _ m' => s.length - 9 + i ≤ s.length ∧ ArrAt PH.mt m' (.slice a ny c) 3 1 (intsV ys)) (fun i => s.length - i) 0 (by kernel_rfl) (fun _ => by kernel_rfl) ⟨by kernel_rfl, by rw [List.take_zero]; kernel_rfl, by kernel_rfl⟩ ⟨by omega, hA⟩ ?_
      clear hA
      rintro J2 i hJ2 u2 m2 hle2 ⟨hi, hA⟩
      by_cases hlt : s.length - 9 + i < s.length
      · refine G.lssT ((s.length - 9 + i : Nat) : Int) (s.length : Int) (by kernel_rfl) (by omega) ?_
        have hb9 : rd ((s.drop (s.length - 9)).take (i + 1)) < 1000000000 := by
          have := rd_lt ((hsd.drop (s.length - 9)).take (i + 1))
          refine Nat.lt_of_lt_of_le this ?_
          rw [show (1000000000 : Nat) = 10 ^ 9 from rfl]
          exact Nat.pow_le_pow_right (by omega) (by simp; omega)
        have hdg := getD_dig hsd hlt
        rw [take_succ_drop hlt, rd_snoc] at hb9
        refine G.mul 10 ((rd ((s.drop (s.length - 9)).take i) : Nat) : Int) ((10 * rd ((s.drop (s.length - 9)).take i) : Nat) : Int) (by kernel_rfl) (by omega) (by omega) (by omega) ?_
        refine G.idxS s (s.length - 9 + i) _ (by kernel_rfl) (get_of_getD hlt) ?_
        refine G.sub8 ((s.getD (s.length - 9 + i) 0).toNat : Int) 48 (((s.getD (s.length - 9 + i) 0).toNat - 48 : Nat) : Int) (by kernel_rfl) (by omega) (by omega) (by omega) ?_
        refine G.convI .u8 .i64 .u8 (((s.getD (s.length - 9 + i) 0).toNat - 48 : Nat) : Int) (((s.getD (s.length - 9 + i) 0).toNat - 48 : Nat) : Int) (by kernel_rfl) (i64_wrap (by omega) (by omega)) ?_
        refine G.add ((10 * rd ((s.drop (s.length - 9)).take i) : Nat) : Int) (((s.getD (s.length - 9 + i) 0).toNat - 48 : Nat) : Int) ((rd ((s.drop (s.length - 9)).take (i + 1)) : Nat) : Int) (by kernel_rfl) (by rw [take_succ_drop hlt, rd_snoc]; omega) (by omega) (by rw [take_succ_drop hlt, rd_snoc]; omega) ?_
        refine G.add ((s.length - 9 + i : Nat) : Int) 1 ((s.length - 9 + (i + 1) : Nat) : Int) (by kernel_rfl) (by omega) (by omega) (by omega) ?_
        exact G.back (by kernel_rfl) (hJ2 (i + 1) _ _ _ ⟨by kernel_rfl, by kernel_rfl, by kernel_rfl⟩ hle2 ⟨by omega, hA⟩ (by omega))
      · refine G.lssF ((s.length - 9 + i : Nat) : Int) (s.length : Int) (by kernel_rfl) (by omega) ?_
        have htk : (s.drop (s.length - 9)).take i = s.drop (s.length - 9) := List.take_of_length_le (by simp; omega)
        rw [htk]
        have hstep := hst.step
        have hsl : (s.take (s.length - 9)).length = s.length - 9 := by simp
        generalize rd (s.drop (s.length - 9)) = d at hstep ⊢
        refine G.buildU 3 1 8 (.int .i64 0) [.int .i64 (d : Int)] (by kernel_rfl) (intsV_ok [d]) rfl (by omega) (by simp) (by simp) ?_
        intro g u3 l3 e3
        refine G.append 3 1 8 (.int .i64 0) PH.mt (intsV ys) [.int .i64 (d : Int)] (.slice a ny c) g 0 1 1 (by kernel_rfl) rfl rfl (by omega) hA e3 (intsV_ok [d]) rfl (by omega) (by rw [intsV_length]; omega) (by rw [intsV_length]; omega) ?_
        intro v4 m4 hA4
        rw [intsV_snoc] at hA4
        obtain ⟨a4, c4, rfl⟩ := hA4.shape
        refine G.sliceSTo s (s.length - 9) (by kernel_rfl) (by kernel_rfl) (by omega) ?_
        exact G.back (by kernel_rfl) (hJ (s.take (s.length - 9), ys ++ [d], (a4, (intsV (ys ++ [d])).length, c4)) _ _ _ ⟨by kernel_rfl, by kernel_rfl, by kernel_rfl⟩ ((hle.trans hle2).trans l3) ⟨by dsimp only; rw [hsl, List.length_append, List.length_singleton]; omega, hstep, hA4⟩ (by dsimp only; rw [hsl]; omega))
    · have hs0 : s = [] := List.eq_nil_of_length_eq_zero (by omega)
      subst hs0
      refine G.gtrF ((0 : Nat) : Int) 0 (by kernel_rfl) (by omega) ?_
      refine G.give PH.mt (intsV ys) _ (by kernel_rfl) hA (fun _ => .inl rfl) ?_
      intro u3 l3 hL
      refine G.call0 _ _ (by kernel_rfl) Tryz.call96 (bigTrimB (b := true) (a := a) (n := ny) (c := c) (l := ys) hL hst.low (by omega)) ?_
      intro v5 u5 l5 k5
      have hv : val ys = rd l := by have := hst.sum; simpa [rd, rdA] using this.symm
      rw [hv] at k5
      obtain ⟨b5, a5, n5, c5, rfl, _, _⟩ := k5.opn
      exact G.ret (.agg #[.bool b5, .slice a5 n5 c5]) (by kernel_rfl) ⟨rfl, k5⟩
end Go.Proofs.YtldokelpolbnnaaGreatDoor
end
