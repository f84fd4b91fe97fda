/- Joined out of parts of one proof by a program: contracts of the functions that the statement reaches, and the plain facts behind them. -/
import Derived.Test.YtldokelpolbnnaaGreatDoorJD11
set_option linter.unusedVariables false
set_option linter.unusedSimpArgs false
set_option linter.unusedSectionVars false
section
set_option linter.unusedVariables false
set_option linter.unusedSimpArgs false
namespace Go.Proofs.YtldokelpolbnnaaGreatDoor
theorem disc_alt {q0 q1 : Rat} (h : 4 * q0 ≤ q1 * q1) : 4 * q0 ≤ -q1 * -q1 := by grind
theorem cnt1 {q0 q1 : Rat} (h : 4 * q0 ≤ q1 * q1) (a : Rat) : var (mulL a 0 [q0, q1, 1]) = var [q0, q1, 1] + (if 0 < a then 1 else 0) := by
  rcases sg_cases a with ⟨ha, _⟩ | ⟨ha, _⟩ | ⟨ha, _⟩
  · rw [if_neg (by grind)]
    have := mul_below h (a := -a) (by grind)
    rw [show - -a = a by grind] at this
    rw [this]; rfl
  · rw [if_neg (by grind), ha, mulL_zero, var_zero]; rfl
  · rw [if_pos ha]
    have h1 := var_mul ha [q0, q1, 1] (nz_quad _ _)
    have h2 := var_alt (mulL a 0 [q0, q1, 1]) false (mulL_nz rfl)
    rw [alt_mul, alt_quad, mul_below (disc_alt h) ha, mulL_head (by grind) _ (nz_quad _ _), mulL_length] at h2
    have ex := quad_exact h
    simp at h2
    omega
theorem cnt2 {q0 q1 : Rat} (h : 4 * q0 ≤ q1 * q1) (a : Rat) : var (mulL a 0 (mulL a 0 [q0, q1, 1])) = var [q0, q1, 1] + (if 0 < a then 2 else 0) := by
  rcases sg_cases a with ⟨ha, _⟩ | ⟨ha, _⟩ | ⟨ha, _⟩
  · rw [if_neg (by grind)]
    have := mul2_below h (a := -a) (by grind)
    rw [show - -a = a by grind] at this
    rw [this]; rfl
  · rw [if_neg (by grind), ha, mulL_zero, mulL_zero, var_zero, var_zero]; rfl
  · rw [if_pos ha]
    have hl : (mulL a 0 [q0, q1, 1]).getLast? = some 1 := by rw [mulL_last _ _ _ (by simp)]; rfl
    have h1 := var_mul ha [q0, q1, 1] (nz_quad _ _)
    have h3 := var_mul ha (mulL a 0 [q0, q1, 1]) (mulL_nz rfl)
    have h2 := var_alt (mulL a 0 (mulL a 0 [q0, q1, 1])) false (mulL_nz hl)
    have e1 : var (altL false (mulL a 0 (mulL a 0 [q0, q1, 1]))) = var (mulL (-a) 0 (mulL (-a) 0 [q0, -q1, 1])) := by
      rw [alt_mul, (altL_mul a [q0, q1, 1] 0).1, alt_quad, show -(0 : Rat) = 0 by grind]
      have : mulL (-a) 0 ((mulL (-a) 0 [q0, -q1, 1]).map (fun x => -x)) = (mulL (-a) 0 (mulL (-a) 0 [q0, -q1, 1])).map (fun x => -x) := by simp [mulL]; grind
      rw [this, var_neg]
    rw [e1, mul2_below (disc_alt h) ha, mulL_head (by grind) _ (mulL_nz rfl), mulL_head (by grind) _ (nz_quad _ _), mulL_length, mulL_length] at h2
    have ex := quad_exact h
    simp at h2
    omega
theorem cntq {u v : Rat} (h : 4 * v ≤ u * u) : var [v * v, 2 * u * v, u * u + 2 * v, 2 * u, 1] = 2 * var [v, u, 1] := by
  have one' : sg 1 = 1 := sgp (by decide)
  rcases sg_cases v with ⟨a1, a2⟩ | ⟨a1, a2⟩ | ⟨a1, a2⟩
  · have h1 : var [v, u, 1] = 1 := by
      rw [var_nz _ (by grind)]
      rcases sg_cases u with ⟨b1, b2⟩ | ⟨b1, b2⟩ | ⟨b1, b2⟩ <;> simp [chg_cons, a2, b2, one', chg]
    have hvv : 0 < v * v := by have := Rat.mul_pos (show 0 < -v by grind) (show 0 < -v by grind); grind
    rw [h1, var_nz _ (by grind), sgp hvv]
    rcases sg_cases u with ⟨b1, b2⟩ | ⟨b1, b2⟩ | ⟨b1, b2⟩
    · have c1 : 0 < 2 * u * v := by have := Rat.mul_pos (show 0 < -u by grind) (show 0 < -v by grind); grind
      rcases sg_cases (u * u + 2 * v) with ⟨_, d2⟩ | ⟨_, d2⟩ | ⟨_, d2⟩ <;> simp [chg_cons, sgp c1, d2, sg_neg (show 2 * u < 0 by grind), one', chg]
    · subst b1
      simp [chg_cons, show (2 : Rat) * 0 * v = 0 by grind, show (2 : Rat) * 0 = 0 by grind, sg_zero, sg_neg (show 0 + 2 * v < 0 by grind), one', chg]
    · have c1 : 2 * u * v < 0 := by have := mul_neg_of (show 0 < 2 * u by grind) a1; grind
      rcases sg_cases (u * u + 2 * v) with ⟨_, d2⟩ | ⟨_, d2⟩ | ⟨_, d2⟩ <;> simp [chg_cons, sg_neg c1, d2, sgp (show 0 < 2 * u by grind), one', chg]
  · subst a1
    rw [show (0 : Rat) * 0 = 0 by grind, show 2 * u * 0 = (0 : Rat) by grind, show u * u + 2 * 0 = u * u by grind, var_zero, var_zero, var_zero]
    rcases sg_cases u with ⟨b1, b2⟩ | ⟨b1, b2⟩ | ⟨b1, b2⟩
    · have c1 : 0 < u * u := by have := Rat.mul_pos (show 0 < -u by grind) (show 0 < -u by grind); grind
      rw [var_nz _ (by grind), var_nz _ (by grind)]; simp [chg_cons, sgp c1, b2, sg_neg (show 2 * u < 0 by grind), one', chg]
    · subst b1
      rw [show (0 : Rat) * 0 = 0 by grind, show (2 : Rat) * 0 = 0 by grind, var_zero, var_zero, var_nz _ (by decide)]; rfl
    · have c1 : 0 < u * u := Rat.mul_pos b1 b1
      rw [var_nz _ (by grind), var_nz _ (by grind)]; simp [chg_cons, sgp c1, b2, sgp (show 0 < 2 * u by grind), one', chg]
  · have hvv : 0 < v * v := Rat.mul_pos a1 a1
    rcases sg_cases u with ⟨b1, b2⟩ | ⟨b1, b2⟩ | ⟨b1, b2⟩
    · have c1 : 2 * u * v < 0 := by have := mul_neg_of (show 0 < 2 * v by grind) b1; grind
      have c2 : 0 < u * u + 2 * v := by have := Rat.mul_pos (show 0 < -u by grind) (show 0 < -u by grind); grind
      rw [varN5 hvv c1 c2 (by grind) (by decide), varN3 a1 b1 (by decide)]
    · subst b1; exfalso; grind
    · have c1 : 0 < 2 * u * v := by have := Rat.mul_pos (show 0 < 2 * u by grind) a1; grind
      have c2 : 0 < u * u + 2 * v := by have := Rat.mul_pos b1 b1; grind
      rw [varP5 hvv c1 c2 (by grind) (by decide), varP3 a1 b1 (by decide)]
theorem shift_mul1 (x r q0 q1 : Rat) : shiftL x (mulL r 0 [q0, q1, 1]) = mulL (r - x) 0 (shiftL x [q0, q1, 1]) := by
  have e : mulL r 0 [q0, q1, 1] = [0 - r * q0, q0 - r * q1, q1 - r * 1, 1] := rfl
  rw [e, shift3, shift2]; simp only [mulL, List.cons.injEq, and_true]; refine ⟨?_, ?_, ?_⟩ <;> grind
theorem shift_mul2 (x r q0 q1 : Rat) : shiftL x (mulL r 0 (mulL r 0 [q0, q1, 1])) = mulL (r - x) 0 (mulL (r - x) 0 (shiftL x [q0, q1, 1])) := by
  have e : mulL r 0 (mulL r 0 [q0, q1, 1]) = [0 - r * (0 - r * q0), (0 - r * q0) - r * (q0 - r * q1), (q0 - r * q1) - r * (q1 - r * 1), (q1 - r * 1) - r * 1, 1] := rfl
  rw [e, shift4, shift2]; simp only [mulL, List.cons.injEq, and_true]; refine ⟨?_, ?_, ?_, ?_⟩ <;> grind
theorem disc_shift {q0 q1 : Rat} (h : 4 * q0 ≤ q1 * q1) (x : Rat) : 4 * (q0 + x * q1 + x * x * 1) ≤ (q1 + 2 * x * 1) * (q1 + 2 * x * 1) := by grind
theorem ind_split {r a b : Rat} (hab : a ≤ b) : ((if 0 < r - a then 1 else 0 : Nat) : Int) - ((if 0 < r - b then 1 else 0 : Nat) : Int) = ((if a < r ∧ r ≤ b then 1 else 0 : Nat) : Int) := by
  by_cases h1 : 0 < r - a
  · by_cases h2 : 0 < r - b
    · rw [if_pos h1, if_pos h2, if_neg (by grind)]; rfl
    · rw [if_pos h1, if_neg h2, if_pos (by grind)]; rfl
  · rw [if_neg h1, if_neg (by grind), if_neg (by grind)]; rfl
theorem ind2 (c : Prop) [Decidable c] : (if c then 2 else 0 : Nat) = 2 * (if c then 1 else 0) := by split <;> rfl
theorem within_mul1 {r q0 q1 a b : Rat} (h : 4 * q0 ≤ q1 * q1) (hab : a ≤ b) : withinL (mulL r 0 [q0, q1, 1]) a b = withinL [q0, q1, 1] a b + ((if a < r ∧ r ≤ b then 1 else 0 : Nat) : Int) := by
  rw [within_var, within_var, shift_mul1, shift_mul1, shift2, shift2, cnt1 (disc_shift h a), cnt1 (disc_shift h b), ← ind_split hab]; omega
theorem within_mul2 {r q0 q1 a b : Rat} (h : 4 * q0 ≤ q1 * q1) (hab : a ≤ b) : withinL (mulL r 0 (mulL r 0 [q0, q1, 1])) a b = withinL [q0, q1, 1] a b + 2 * ((if a < r ∧ r ≤ b then 1 else 0 : Nat) : Int) := by
  rw [within_var, within_var, shift_mul2, shift_mul2, shift2, shift2, cnt2 (disc_shift h a), cnt2 (disc_shift h b), ← ind_split hab, ind2, ind2]; omega
theorem within_sq {u v a b : Rat} (h : 4 * v ≤ u * u) : withinL [v * v, 2 * u * v, u * u + 2 * v, 2 * u, 1] a b = 2 * withinL [v, u, 1] a b := by
  have e : ∀ x : Rat, shiftL x [v * v, 2 * u * v, u * u + 2 * v, 2 * u, 1] = [(v + x * u + x * x * 1) * (v + x * u + x * x * 1), 2 * (u + 2 * x * 1) * (v + x * u + x * x * 1), (u + 2 * x * 1) * (u + 2 * x * 1) + 2 * (v + x * u + x * x * 1), 2 * (u + 2 * x * 1), 1] := fun x => by
    rw [shift4]; simp only [List.cons.injEq, and_true]; refine ⟨?_, ?_, ?_, ?_⟩ <;> grind
  rw [within_var, within_var, e, e, cntq (disc_shift h a), cntq (disc_shift h b), shift2, shift2]; omega
end Go.Proofs.YtldokelpolbnnaaGreatDoor
end
section
set_option linter.unusedVariables false
set_option linter.unusedSimpArgs false
namespace Go.Proofs.YtldokelpolbnnaaGreatDoor
theorem sq0 (a : Rat) : 0 ≤ a * a := by
  rcases sg_cases a with ⟨h, _⟩ | ⟨h, _⟩ | ⟨h, _⟩
  · have := Rat.mul_pos (show 0 < -a by grind) (show 0 < -a by grind); grind
  · rw [h]; grind
  · have := Rat.mul_pos h h; grind
theorem squares2 (x y z w a b c d e f : Rat) : (x + y + z + w) * (x + y + z + w) - 2 * c2f x y z w a b c d e f = x * x + y * y + z * z + w * w + 2 * (a * a + b * b + c * c + d * d + e * e + f * f) := by
  unfold c2f; grind
theorem squares2_nonneg (x y z w a b c d e f : Rat) : 0 ≤ (x + y + z + w) * (x + y + z + w) - 2 * c2f x y z w a b c d e f := by
  rw [squares2]
  have h1 := sq0 x; have h2 := sq0 y; have h3 := sq0 z; have h4 := sq0 w; have h5 := sq0 a; have h6 := sq0 b; have h7 := sq0 c; have h8 := sq0 d; have h9 := sq0 e; have h10 := sq0 f
  grind
theorem shiftP4 (x a b c d : Rat) : shiftL x (prodL [a, b, c, d]) = prodL [a - x, b - x, c - x, d - x] := by
  simp [shiftL, shiftGo, horGo, gR, prodL, mulL]; grind
theorem shiftP' (x : Rat) (d : List Rat) (h0 : d ≠ []) (h : d.length ≤ 4) : shiftL x (prodL d) = prodL (d.map (· - x)) := by
  match d, h0, h with
  | [a], _, _ => exact shiftP1 x a
  | [a, b], _, _ => exact shiftP2 x a b
  | [a, b, c], _, _ => exact shiftP3 x a b c
  | [a, b, c, d], _, _ => exact shiftP4 x a b c d
theorem var_split' (d : List Rat) (x : Rat) (h0 : d ≠ []) (h : d.length ≤ 4) : var (shiftL x (prodL d)) = cntG d x := by
  rw [shiftP' x d h0 h, var_prod, List.filter_map, List.length_map]
  unfold cntG; congr 2; funext e
  exact decide_eq_decide.2 (by grind)
theorem within_split' {d : List Rat} {a b : Rat} (hab : a ≤ b) (h0 : d ≠ []) (h : d.length ≤ 4) : withinL (prodL d) a b = (cntB d a b : Int) := by
  rw [within_var, var_split' _ _ h0 h, var_split' _ _ h0 h, cnt_split hab]; omega
def Disc4 (p : List Rat) : Prop := (∀ x q0 q1, p = mulL x 0 (mulL x 0 [q0, q1, 1]) → 4 * q0 ≤ q1 * q1) ∧ (∀ v u, p = [v * v, 2 * u * v, u * u + 2 * v, 2 * u, 1] → 4 * v ≤ u * u)
theorem Cls4.fine {p s : List Rat} (h : Cls4 p s) (hp : p.length = 5) (hd : Disc4 p) : Fine p s := by
  rcases h with ⟨k, hk, rfl⟩ | ⟨d, d', k, hk, rfl, rfl, hl3, hm⟩ | ⟨x, q0, q1, k, hk, rfl, rfl⟩ | ⟨v, u, k, hk, rfl, rfl⟩
  · refine ⟨by omega, by simp; omega, fun a b _ h => ?_, fun a b _ h => ?_⟩
    · rwa [within_scale hk _ (by omega)] at h
    · rwa [within_scale hk _ (by omega)] at h
  · rw [prodL_length] at hp
    have h0 : d ≠ [] := by intro e; rw [e] at hp; simp at hp
    obtain ⟨x, hx⟩ : ∃ x, x ∈ d := by
      cases d with
      | nil => exact absurd rfl h0
      | cons x d => exact ⟨x, by simp⟩
    have h0' : d' ≠ [] := by intro e; rw [hm, e] at hx; simp at hx
    have hls : (prodL d').length ≤ 5 := by rw [prodL_length]; omega
    refine ⟨by rw [prodL_length]; omega, by simpa using hls, fun a b hab h => ?_, fun a b hab h => ?_⟩
    · rw [within_scale hk _ hls, within_split hab h0' hl3] at h
      rw [within_split' hab h0 (by omega)]
      have h1 : cntB d' a b = 0 := by omega
      rw [cntB_zero] at h1
      have : cntB d a b = 0 := cntB_zero.2 fun y hy => h1 y ((hm y).1 hy)
      omega
    · rw [within_scale hk _ hls, within_split hab h0' hl3] at h
      rw [within_split' hab h0 (by omega)]
      have h1 : ¬ cntB d a b = 0 := fun e => by
        have : cntB d' a b = 0 := cntB_zero.2 fun y hy => cntB_zero.1 e y ((hm y).2 hy)
        omega
      omega
  · have hq := hd.1 x q0 q1 rfl
    have hls : (mulL x 0 [q0, q1, 1]).length ≤ 5 := by rw [mulL_length]; simp
    refine ⟨by omega, by simpa using hls, fun a b hab h => ?_, fun a b hab h => ?_⟩
    · rw [within_scale hk _ hls, within_mul1 hq hab] at h
      rw [within_mul2 hq hab]
      have := within_nonneg hab [q0, q1, 1] (by simp)
      omega
    · rw [within_scale hk _ hls, within_mul1 hq hab] at h
      rw [within_mul2 hq hab]
      have := within_nonneg hab [q0, q1, 1] (by simp)
      omega
  · have hq := hd.2 v u rfl
    refine ⟨by omega, by simp, fun a b hab h => ?_, fun a b hab h => ?_⟩
    · rw [within_scale hk _ (by simp)] at h
      rw [within_sq hq]; omega
    · rw [within_scale hk _ (by simp)] at h
      rw [within_sq hq]; omega
end Go.Proofs.YtldokelpolbnnaaGreatDoor
end
section
set_option linter.unusedVariables false
set_option linter.unusedSimpArgs false
namespace Go.Proofs.YtldokelpolbnnaaGreatDoor
def sqN2 (x y z w a b c d e f t : Rat) : Rat :=
  (x * x + a * a + b * b + c * c - t * x) * (x * x + a * a + b * b + c * c - t * x) + (a * a + y * y + d * d + e * e - t * y) * (a * a + y * y + d * d + e * e - t * y) + (b * b + d * d + z * z + f * f - t * z) * (b * b + d * d + z * z + f * f - t * z) + (c * c + e * e + f * f + w * w - t * w) * (c * c + e * e + f * f + w * w - t * w)
  + 2 * ((x * a + a * y + b * d + c * e - t * a) * (x * a + a * y + b * d + c * e - t * a) + (x * b + a * d + b * z + c * f - t * b) * (x * b + a * d + b * z + c * f - t * b) + (x * c + a * e + b * f + c * w - t * c) * (x * c + a * e + b * f + c * w - t * c) + (a * b + y * d + d * z + e * f - t * d) * (a * b + y * d + d * z + e * f - t * d) + (a * c + y * e + d * f + e * w - t * e) * (a * c + y * e + d * f + e * w - t * e) + (b * c + d * e + z * f + f * w - t * f) * (b * c + d * e + z * f + f * w - t * f))
theorem sqN2_nonneg (x y z w a b c d e f t : Rat) : 0 ≤ sqN2 x y z w a b c d e f t := by
  unfold sqN2
  have h1 := sq0 (x * x + a * a + b * b + c * c - t * x)
  have h2 := sq0 (a * a + y * y + d * d + e * e - t * y)
  have h3 := sq0 (b * b + d * d + z * z + f * f - t * z)
  have h4 := sq0 (c * c + e * e + f * f + w * w - t * w)
  have h5 := sq0 (x * a + a * y + b * d + c * e - t * a)
  have h6 := sq0 (x * b + a * d + b * z + c * f - t * b)
  have h7 := sq0 (x * c + a * e + b * f + c * w - t * c)
  have h8 := sq0 (a * b + y * d + d * z + e * f - t * d)
  have h9 := sq0 (a * c + y * e + d * f + e * w - t * e)
  have h10 := sq0 (b * c + d * e + z * f + f * w - t * f)
  generalize (x * x + a * a + b * b + c * c - t * x) * (x * x + a * a + b * b + c * c - t * x) = s1 at *
  generalize (a * a + y * y + d * d + e * e - t * y) * (a * a + y * y + d * d + e * e - t * y) = s2 at *
  generalize (b * b + d * d + z * z + f * f - t * z) * (b * b + d * d + z * z + f * f - t * z) = s3 at *
  generalize (c * c + e * e + f * f + w * w - t * w) * (c * c + e * e + f * f + w * w - t * w) = s4 at *
  generalize (x * a + a * y + b * d + c * e - t * a) * (x * a + a * y + b * d + c * e - t * a) = s5 at *
  generalize (x * b + a * d + b * z + c * f - t * b) * (x * b + a * d + b * z + c * f - t * b) = s6 at *
  generalize (x * c + a * e + b * f + c * w - t * c) * (x * c + a * e + b * f + c * w - t * c) = s7 at *
  generalize (a * b + y * d + d * z + e * f - t * d) * (a * b + y * d + d * z + e * f - t * d) = s8 at *
  generalize (a * c + y * e + d * f + e * w - t * e) * (a * c + y * e + d * f + e * w - t * e) = s9 at *
  generalize (b * c + d * e + z * f + f * w - t * f) * (b * c + d * e + z * f + f * w - t * f) = s10 at *
  grind
theorem sqN2_id (x y z w a b c d e f t : Rat) (ht : 2 * t = x + y + z + w) : 4 * sqN2 x y z w a b c d e f t = ((x + y + z + w) * (x + y + z + w) - 4 * c2f x y z w a b c d e f) * ((x + y + z + w) * (x + y + z + w) - 2 * c2f x y z w a b c d e f) + 4 * (x + y + z + w) * c1f x y z w a b c d e f - 16 * det4 x y z w a b c d e f := by
  have hw : w = 2 * t - x - y - z := by grind
  subst hw
  unfold sqN2 c2f c1f det4
  grind
theorem disc_core {x y z w a b c d e f : Rat} (h3 : c1f x y z w a b c d e f = 0) (h4 : det4 x y z w a b c d e f = 0) : 4 * c2f x y z w a b c d e f ≤ (x + y + z + w) * (x + y + z + w) := by
  have id := sqN2_id x y z w a b c d e f ((x + y + z + w) / 2) (by grind)
  have hs := sqN2_nonneg x y z w a b c d e f ((x + y + z + w) / 2)
  have hT := squares2_nonneg x y z w a b c d e f
  have hT2 := squares2 x y z w a b c d e f
  rw [h3, h4] at id
  generalize sqN2 x y z w a b c d e f ((x + y + z + w) / 2) = S at *
  have hx := sq0 x; have hy := sq0 y; have hz := sq0 z; have hw := sq0 w
  have ha := sq0 a; have hb := sq0 b; have hc := sq0 c; have hd := sq0 d; have he := sq0 e; have hf := sq0 f
  have hcs : (x + y + z + w) * (x + y + z + w) ≤ 4 * (x * x + y * y + z * z + w * w) := by
    have g1 := sq0 (x - y); have g2 := sq0 (x - z); have g3 := sq0 (x - w); have g4 := sq0 (y - z); have g5 := sq0 (y - w); have g6 := sq0 (z - w)
    grind
  have he1 := sq0 (x + y + z + w)
  generalize c2f x y z w a b c d e f = q at *
  generalize (x + y + z + w) * (x + y + z + w) = E at *
  generalize x + y + z + w = e1 at *
  have id' : 4 * S = (E - 4 * q) * (E - 2 * q) := by grind
  rcases sg_cases (E - 4 * q) with ⟨h, _⟩ | ⟨h, _⟩ | ⟨h, _⟩
  · rcases sg_cases (E - 2 * q) with ⟨h', _⟩ | ⟨h', _⟩ | ⟨h', _⟩
    · grind
    · have hE : E = 0 := by grind
      grind
    · have := mul_neg_of h' h
      have e : (E - 2 * q) * (E - 4 * q) = (E - 4 * q) * (E - 2 * q) := by grind
      rw [e, ← id'] at this
      grind
  · grind
  · grind
theorem disc4 (a b c d e f g h i j : Rat) : Disc4 (charL [[a, b, c, d], [b, e, f, g], [c, f, h, i], [d, g, i, j]]) := by
  constructor
  · intro x q0 q1 hp
    have hs := shift_char4 x a b c d e f g h i j
    rw [hp, shift_mul2, show x - x = (0 : Rat) by grind, mulL_zero, mulL_zero, shift2] at hs
    simp only [List.cons.injEq, and_true] at hs
    obtain ⟨s0, s1, s2, s3⟩ := hs
    have k := disc_core s1.symm s0.symm
    rw [← s2, ← s3] at k
    grind
  · intro v u hp
    rw [char4] at hp
    simp only [List.cons.injEq, and_true] at hp
    obtain ⟨_, _, p2, p3⟩ := hp
    have k := squares2_nonneg (a + u / 2) (e + u / 2) (h + u / 2) (j + u / 2) b c d f g i
    have e2 : c2f (a + u / 2) (e + u / 2) (h + u / 2) (j + u / 2) b c d f g i = c2f a e h j b c d f g i + 3 * (u / 2) * (a + e + h + j) + 6 * (u / 2) * (u / 2) := by unfold c2f; grind
    rw [e2, p2] at k
    have e3 : a + e + h + j = -(2 * u) := by grind
    have e4 : (a + u / 2) + (e + u / 2) + (h + u / 2) + (j + u / 2) = 0 := by grind
    rw [e4, e3] at k
    grind
theorem specF4 {A : List (List Rat)} (hl : A.length = 4) (hT : ThinOK A 4) (hs : ∀ i j, j < i → i < 4 → gR (gM A i) j = gR (gM A j) i) : SpecF A 4 := by
  have hP := prod_all hl (by omega) (by omega) hT hs
  obtain ⟨b1, b2, b3⟩ := bnd_facts hl (by omega) hT
  obtain ⟨d1, d2⟩ := b1.dy
  have hcl : (charL A).length = 5 := by rw [charL_length, hl]
  have hsim := sim_facts (p := charL A) (by omega) (by omega) (by rw [hcl]; show gR (charL A) 4 ≠ 0; rw [hP.top]; decide) hP.sz
  have hq := thin_sq hl hT
  have hb : ∀ j, j < 4 → asumGo (gM A j) (gM A j).length 0 0 < bndL 5 A + 1 := fun j hj => by have := b3 j (by omega); grind
  have key : Cls4 (charL A) (simpL 6 (charL A)) ∧ Disc4 (charL A) ∧ withinL (charL A) (-(bndL 5 A + 1)) (bndL 5 A + 1) = ((4 : Nat) : Int) := by
    clear hsim b3
    generalize bndL 5 A + 1 = E at *
    obtain ⟨a, b, c, d, b', e, f, g, c', f', h, i, d', g', i', j, rfl⟩ := sq4 hq
    obtain rfl : b' = b := hs 1 0 (by omega) (by omega)
    obtain rfl : c' = c := hs 2 0 (by omega) (by omega)
    obtain rfl : d' = d := hs 3 0 (by omega) (by omega)
    obtain rfl : f' = f := hs 2 1 (by omega) (by omega)
    obtain rfl : g' = g := hs 3 1 (by omega) (by omega)
    obtain rfl : i' = i := hs 3 2 (by omega) (by omega)
    refine ⟨by rw [char4]; exact cls4 _ _ _ _ 2, disc4 _ _ _ _ _ _ _ _ _ _, ?_⟩
    have h0 := hb 0 (by omega)
    have h1 := hb 1 (by omega)
    have h2 := hb 2 (by omega)
    have h3 := hb 3 (by omega)
    simp [gM, asumGo, gR] at h0 h1 h2 h3
    obtain ⟨v0, v4⟩ := all4 (a := a) (b := b') (c := c') (d := d') (e := e) (f := f') (g := g') (h := h) (i := i') (j := j) (E := E) (by grind) (by grind) (by grind) (by grind)
    rw [within_var, v0, v4]; rfl
  exact ⟨hsim, key.1.fine hcl key.2.1, key.2.2, b2, b1.small, d1, d2, b1.pos⟩
end Go.Proofs.YtldokelpolbnnaaGreatDoor
end
section
set_option linter.unusedVariables false
set_option linter.unusedSimpArgs false
namespace Go.Proofs.YtldokelpolbnnaaGreatDoor
theorem chg_par : ∀ (l : List Rat) (s : Int), s = 1 ∨ s = -1 → l.getLast? = some 1 → (chg s l % 2 = 0 ↔ s = 1)
  | [], s, _, h => by simp at h
  | [q], s, hs, h => by
    simp at h; subst h
    have one' : sg 1 = 1 := sgp (by decide)
    rcases hs with rfl | rfl <;> simp [chg_cons, one', chg]
  | q :: q' :: r, s, hs, h => by
    have hl : (q' :: r).getLast? = some 1 := by rw [← h, List.getLast?_cons_cons]
    rw [chg_cons]
    split
    · have ih := chg_par (q' :: r) (-s) (by rcases hs with rfl | rfl <;> simp) hl
      rcases hs with rfl | rfl
      · simp at ih ⊢; omega
      · simp at ih ⊢; omega
    · exact chg_par (q' :: r) s hs hl
theorem head_par {c0 : Rat} {l : List Rat} (h : l.getLast? = some 1) : (var (c0 :: l) % 2 = 0 → 0 ≤ c0) ∧ (var (c0 :: l) % 2 = 1 → c0 ≤ 0) := by
  rcases sg_cases c0 with ⟨h1, h2⟩ | ⟨h1, h2⟩ | ⟨h1, h2⟩
  · rw [var_nz _ (by grind), h2]
    have := chg_par l (-1) (.inr rfl) h
    constructor
    · intro e; have := this.1 e; simp at this
    · intro _; grind
  · subst h1; exact ⟨fun _ => by grind, fun _ => by grind⟩
  · rw [var_nz _ (by grind), h2]
    have := chg_par l 1 (.inl rfl) h
    constructor
    · intro _; grind
    · intro e; have := this.2 rfl; omega
theorem sum2 {c0 c1 h1 h2 : Rat} (h12 : h1 < h2) (p1 : c0 + c1 * h1 + h1 * h1 ≤ 0) (p2 : 0 ≤ c0 + c1 * h2 + h2 * h2) : -c1 ≤ h1 + h2 := by
  have id : (h2 - h1) * (h1 + h2 + c1) = (c0 + c1 * h2 + h2 * h2) - (c0 + c1 * h1 + h1 * h1) := by grind
  rcases sg_cases (h1 + h2 + c1) with ⟨h, _⟩ | ⟨h, _⟩ | ⟨h, _⟩
  · have := mul_neg_of (show 0 < h2 - h1 by grind) h; grind
  · grind
  · grind
theorem sum3 {c0 c1 c2 h1 h2 h3 : Rat} (h12 : h1 < h2) (h23 : h2 < h3) (p1 : 0 ≤ c0 + c1 * h1 + c2 * h1 * h1 + h1 * h1 * h1) (p2 : c0 + c1 * h2 + c2 * h2 * h2 + h2 * h2 * h2 ≤ 0) (p3 : 0 ≤ c0 + c1 * h3 + c2 * h3 * h3 + h3 * h3 * h3) : -c2 ≤ h1 + h2 + h3 := by
  have id : ((h2 - h1) * (h3 - h1) * (h3 - h2)) * (h1 + h2 + h3 + c2) = (c0 + c1 * h3 + c2 * h3 * h3 + h3 * h3 * h3) * (h2 - h1) + -(c0 + c1 * h2 + c2 * h2 * h2 + h2 * h2 * h2) * (h3 - h1) + (c0 + c1 * h1 + c2 * h1 * h1 + h1 * h1 * h1) * (h3 - h2) := by grind
  have q1 := nn_mul p3 (show 0 ≤ h2 - h1 by grind)
  have q2 := nn_mul (show 0 ≤ -(c0 + c1 * h2 + c2 * h2 * h2 + h2 * h2 * h2) by grind) (show 0 ≤ h3 - h1 by grind)
  have q3 := nn_mul p1 (show 0 ≤ h3 - h2 by grind)
  have d0 : 0 < (h2 - h1) * (h3 - h1) * (h3 - h2) := Rat.mul_pos (Rat.mul_pos (by grind) (by grind)) (by grind)
  rcases sg_cases (h1 + h2 + h3 + c2) with ⟨h, _⟩ | ⟨h, _⟩ | ⟨h, _⟩
  · have := mul_neg_of d0 h
    rw [id] at this; grind
  · grind
  · grind
theorem sum4 {c0 c1 c2 c3 h1 h2 h3 h4 : Rat} (h12 : h1 < h2) (h23 : h2 < h3) (h34 : h3 < h4) (p1 : c0 + c1 * h1 + c2 * h1 * h1 + c3 * h1 * h1 * h1 + h1 * h1 * h1 * h1 ≤ 0) (p2 : 0 ≤ c0 + c1 * h2 + c2 * h2 * h2 + c3 * h2 * h2 * h2 + h2 * h2 * h2 * h2) (p3 : c0 + c1 * h3 + c2 * h3 * h3 + c3 * h3 * h3 * h3 + h3 * h3 * h3 * h3 ≤ 0) (p4 : 0 ≤ c0 + c1 * h4 + c2 * h4 * h4 + c3 * h4 * h4 * h4 + h4 * h4 * h4 * h4) : -c3 ≤ h1 + h2 + h3 + h4 := by
  have id : ((h2 - h1) * (h3 - h1) * (h4 - h1) * (h3 - h2) * (h4 - h2) * (h4 - h3)) * (h1 + h2 + h3 + h4 + c3) = (c0 + c1 * h4 + c2 * h4 * h4 + c3 * h4 * h4 * h4 + h4 * h4 * h4 * h4) * ((h2 - h1) * (h3 - h1) * (h3 - h2)) + -(c0 + c1 * h3 + c2 * h3 * h3 + c3 * h3 * h3 * h3 + h3 * h3 * h3 * h3) * ((h2 - h1) * (h4 - h1) * (h4 - h2)) + (c0 + c1 * h2 + c2 * h2 * h2 + c3 * h2 * h2 * h2 + h2 * h2 * h2 * h2) * ((h3 - h1) * (h4 - h1) * (h4 - h3)) + -(c0 + c1 * h1 + c2 * h1 * h1 + c3 * h1 * h1 * h1 + h1 * h1 * h1 * h1) * ((h3 - h2) * (h4 - h2) * (h4 - h3)) := by grind
  have v3 : ∀ {a b c : Rat}, a < b → b < c → 0 < (b - a) * (c - a) * (c - b) := fun h h' => Rat.mul_pos (Rat.mul_pos (by grind) (by grind)) (by grind)
  have e1 := v3 h12 h23
  have e2 := v3 h12 (show h2 < h4 by grind)
  have e3 := v3 (show h1 < h3 by grind) h34
  have e4 := v3 h23 h34
  have q1 := nn_mul p4 (show 0 ≤ (h2 - h1) * (h3 - h1) * (h3 - h2) by grind)
  have q2 := nn_mul (show 0 ≤ -(c0 + c1 * h3 + c2 * h3 * h3 + c3 * h3 * h3 * h3 + h3 * h3 * h3 * h3) by grind) (show 0 ≤ (h2 - h1) * (h4 - h1) * (h4 - h2) by grind)
  have q3 := nn_mul p2 (show 0 ≤ (h3 - h1) * (h4 - h1) * (h4 - h3) by grind)
  have q4 := nn_mul (show 0 ≤ -(c0 + c1 * h1 + c2 * h1 * h1 + c3 * h1 * h1 * h1 + h1 * h1 * h1 * h1) by grind) (show 0 ≤ (h3 - h2) * (h4 - h2) * (h4 - h3) by grind)
  have d0 : 0 < (h2 - h1) * (h3 - h1) * (h4 - h1) * (h3 - h2) * (h4 - h2) * (h4 - h3) := Rat.mul_pos (Rat.mul_pos (Rat.mul_pos (Rat.mul_pos (Rat.mul_pos (by grind) (by grind)) (by grind)) (by grind)) (by grind)) (by grind)
  rcases sg_cases (h1 + h2 + h3 + h4 + c3) with ⟨h, _⟩ | ⟨h, _⟩ | ⟨h, _⟩
  · have := mul_neg_of d0 h
    rw [id] at this; grind
  · grind
  · grind
theorem low2 {c0 c1 l1 l2 : Rat} (h12 : l1 < l2) (p1 : 0 ≤ c0 + c1 * l1 + l1 * l1) (p2 : c0 + c1 * l2 + l2 * l2 ≤ 0) : l1 + l2 ≤ -c1 := by
  have := sum2 (c0 := c0) (c1 := -c1) (h1 := -l2) (h2 := -l1) (by grind) (by grind) (by grind)
  grind
theorem low3 {c0 c1 c2 l1 l2 l3 : Rat} (h12 : l1 < l2) (h23 : l2 < l3) (p1 : c0 + c1 * l1 + c2 * l1 * l1 + l1 * l1 * l1 ≤ 0) (p2 : 0 ≤ c0 + c1 * l2 + c2 * l2 * l2 + l2 * l2 * l2) (p3 : c0 + c1 * l3 + c2 * l3 * l3 + l3 * l3 * l3 ≤ 0) : l1 + l2 + l3 ≤ -c2 := by
  have := sum3 (c0 := -c0) (c1 := c1) (c2 := -c2) (h1 := -l3) (h2 := -l2) (h3 := -l1) (by grind) (by grind) (by grind) (by grind) (by grind)
  grind
theorem low4 {c0 c1 c2 c3 l1 l2 l3 l4 : Rat} (h12 : l1 < l2) (h23 : l2 < l3) (h34 : l3 < l4) (p1 : 0 ≤ c0 + c1 * l1 + c2 * l1 * l1 + c3 * l1 * l1 * l1 + l1 * l1 * l1 * l1) (p2 : c0 + c1 * l2 + c2 * l2 * l2 + c3 * l2 * l2 * l2 + l2 * l2 * l2 * l2 ≤ 0) (p3 : 0 ≤ c0 + c1 * l3 + c2 * l3 * l3 + c3 * l3 * l3 * l3 + l3 * l3 * l3 * l3) (p4 : c0 + c1 * l4 + c2 * l4 * l4 + c3 * l4 * l4 * l4 + l4 * l4 * l4 * l4 ≤ 0) : l1 + l2 + l3 + l4 ≤ -c3 := by
  have := sum4 (c0 := c0) (c1 := -c1) (c2 := c2) (c3 := -c3) (h1 := -l4) (h2 := -l3) (h3 := -l2) (h4 := -l1) (by grind) (by grind) (by grind) (by grind) (by grind) (by grind) (by grind)
  grind
end Go.Proofs.YtldokelpolbnnaaGreatDoor
end
section
set_option linter.unusedVariables false
set_option linter.unusedSimpArgs false
namespace Go.Proofs.YtldokelpolbnnaaGreatDoor
def ChainL (V : Rat → Nat) : Rat → List (Rat × Rat × Int) → Rat → Prop
  | a, [], b => a ≤ b ∧ V a = V b
  | a, x :: l, b => a ≤ x.1 ∧ V x.1 = V a ∧ x.1 < x.2.1 ∧ V x.2.1 + 1 = V x.1 ∧ ChainL V x.2.1 l b
theorem ChainL.pre {V : Rat → Nat} {a m b : Rat} (h : a ≤ m) (hv : V a = V m) : ∀ {l : List (Rat × Rat × Int)}, ChainL V m l b → ChainL V a l b
  | [], h' => ⟨Rat.le_trans h h'.1, hv.trans h'.2⟩
  | x :: l, h' => ⟨Rat.le_trans h h'.1, h'.2.1.trans hv.symm, h'.2.2⟩
theorem ChainL.app {V : Rat → Nat} {b m : Rat} {l' : List (Rat × Rat × Int)} (h' : ChainL V m l' b) : ∀ {l : List (Rat × Rat × Int)} {a : Rat}, ChainL V a l m → ChainL V a (l ++ l') b
  | [], a, h => ChainL.pre h.1 h.2 h'
  | x :: l, a, h => ⟨h.1, h.2.1, h.2.2.1, h.2.2.2.1, ChainL.app h' h.2.2.2.2⟩
theorem tree_chain {all sim : List Rat} {h : Nat} : ∀ (f : Nat) (lo hi : Rat) (k : Nat), lo < hi → ∀ l, treeL all sim h f lo hi k = some l → ChainL (fun x => var (shiftL x sim)) lo l hi := by
  intro f
  induction f with
  | zero =>
    intro lo hi k hle l e
    rcases treeL_cases all sim h 0 lo hi k with ⟨h0, e1⟩ | ⟨h0, _, e1⟩ | ⟨h0, h1, ⟨_, e1⟩ | ⟨g, hg, _⟩⟩
    · rw [e1] at e; cases e
      rw [within_var] at h0
      exact ⟨by grind, by show var (shiftL lo sim) = var (shiftL hi sim); omega⟩
    · rw [e1] at e; cases e
      rw [within_var] at h0
      exact ⟨by grind, rfl, hle, by show var (shiftL hi sim) + 1 = var (shiftL lo sim); omega, by grind, rfl⟩
    · rw [e1] at e; cases e
    · omega
  | succ f ih =>
    intro lo hi k hle l e
    rcases treeL_cases all sim h (f + 1) lo hi k with ⟨h0, e1⟩ | ⟨h0, _, e1⟩ | ⟨h0, h1, ⟨h2, _⟩ | ⟨g, hg, e1⟩⟩
    · rw [e1] at e; cases e
      rw [within_var] at h0
      exact ⟨by grind, by show var (shiftL lo sim) = var (shiftL hi sim); omega⟩
    · rw [e1] at e; cases e
      rw [within_var] at h0
      exact ⟨by grind, rfl, hle, by show var (shiftL hi sim) + 1 = var (shiftL lo sim); omega, by grind, rfl⟩
    · omega
    · obtain rfl : g = f := by omega
      rw [e1] at e
      obtain ⟨x, y, x1, x2, rfl⟩ := catO_some e
      exact ChainL.app (ih _ _ (k + 1) (by grind) _ x2) (ih _ _ (k + 1) (by grind) _ x1)
end Go.Proofs.YtldokelpolbnnaaGreatDoor
end
section
set_option linter.unusedVariables false
set_option linter.unusedSimpArgs false
namespace Go.Proofs.YtldokelpolbnnaaGreatDoor
def lowS : List (Rat × Rat × Int) → Rat
  | [] => 0
  | x :: l => x.1 * (x.2.2 : Rat) + lowS l
def highS : List (Rat × Rat × Int) → Rat
  | [] => 0
  | x :: l => x.2.1 * (x.2.2 : Rat) + highS l
theorem lowS_app : ∀ (l l' : List (Rat × Rat × Int)), lowS (l ++ l') = lowS l + lowS l'
  | [], l' => by simp only [List.nil_append, lowS]; grind
  | x :: l, l' => by simp only [List.cons_append, lowS, lowS_app l l']; grind
theorem highS_app : ∀ (l l' : List (Rat × Rat × Int)), highS (l ++ l') = highS l + highS l'
  | [], l' => by simp only [List.nil_append, highS]; grind
  | x :: l, l' => by simp only [List.cons_append, highS, highS_app l l']; grind
def sumB : List Rat → Rat → Rat → Rat
  | [], _, _ => 0
  | e :: d, a, b => (if a < e ∧ e ≤ b then e else 0) + sumB d a b
theorem sumB_split {a m b : Rat} (h1 : a ≤ m) (h2 : m ≤ b) : ∀ d : List Rat, sumB d a b = sumB d a m + sumB d m b
  | [] => by simp only [sumB]; grind
  | e :: d => by
    simp only [sumB, sumB_split h1 h2 d]
    by_cases c1 : a < e ∧ e ≤ m
    · rw [if_pos c1, if_pos (by grind), if_neg (by grind)]; grind
    · by_cases c2 : m < e ∧ e ≤ b
      · rw [if_neg c1, if_pos c2, if_pos (by grind)]; grind
      · rw [if_neg c1, if_neg c2, if_neg (by grind)]; grind
theorem cntB_cons (e : Rat) (d : List Rat) (a b : Rat) : cntB (e :: d) a b = (if a < e ∧ e ≤ b then 1 else 0) + cntB d a b := by
  unfold cntB; rw [List.filter_cons]
  by_cases h : a < e ∧ e ≤ b
  · rw [if_pos (decide_eq_true h), if_pos h, List.length_cons]; omega
  · rw [if_neg (by simpa using h), if_neg h]; omega
theorem sumB_bd (a b : Rat) : ∀ d : List Rat, a * (cntB d a b : Rat) ≤ sumB d a b ∧ sumB d a b ≤ b * (cntB d a b : Rat)
  | [] => by
    have : cntB [] a b = 0 := rfl
    rw [this]; simp only [sumB]
    have h0 : ((0 : Nat) : Rat) = 0 := rfl
    rw [h0]; constructor <;> grind
  | e :: d => by
    obtain ⟨i1, i2⟩ := sumB_bd a b d
    simp only [sumB]
    rw [cntB_cons]
    by_cases c : a < e ∧ e ≤ b
    · rw [if_pos c, if_pos c, Rat.natCast_add]
      have h1 : ((1 : Nat) : Rat) = 1 := rfl
      rw [h1]; constructor <;> grind
    · rw [if_neg c, if_neg c, Nat.zero_add]
      constructor <;> grind
theorem sumB_none {a b : Rat} : ∀ d : List Rat, cntB d a b = 0 → sumB d a b = 0
  | [], _ => rfl
  | e :: d, h => by
    rw [cntB_cons] at h
    simp only [sumB]
    by_cases c : a < e ∧ e ≤ b
    · rw [if_pos c] at h; omega
    · rw [if_neg c] at h ⊢
      rw [sumB_none d (by omega)]; grind
theorem tree_split {d sim : List Rat} {h : Nat} (F : Fine (prodL d) sim) (h0 : d ≠ []) (h4 : d.length ≤ 4) : ∀ (f : Nat) (lo hi : Rat) (k : Nat), lo ≤ hi → ∀ l, treeL (prodL d) sim h f lo hi k = some l → lowS l ≤ sumB d lo hi ∧ sumB d lo hi ≤ highS l := by
  have leaf0 : ∀ lo hi : Rat, lo ≤ hi → withinL sim lo hi = 0 → sumB d lo hi = 0 := fun lo hi hle hw => by
    have := F.s1 _ _ hle hw
    rw [within_split' hle h0 h4] at this
    exact sumB_none d (by omega)
  have leaf1 : ∀ lo hi : Rat, lo ≤ hi → lowS [(lo, hi, withinL (prodL d) lo hi)] ≤ sumB d lo hi ∧ sumB d lo hi ≤ highS [(lo, hi, withinL (prodL d) lo hi)] := fun lo hi hle => by
    rw [within_split' hle h0 h4]
    obtain ⟨b1, b2⟩ := sumB_bd lo hi d
    have e : (((cntB d lo hi : Nat) : Int) : Rat) = (cntB d lo hi : Rat) := rfl
    simp only [lowS, highS, e]
    constructor <;> grind
  intro f
  induction f with
  | zero =>
    intro lo hi k hle l e
    rcases treeL_cases (prodL d) sim h 0 lo hi k with ⟨hw, e1⟩ | ⟨hw, _, e1⟩ | ⟨_, _, ⟨_, e1⟩ | ⟨g, hg, _⟩⟩
    · rw [e1] at e; cases e; rw [leaf0 _ _ hle hw]; simp only [lowS, highS]; constructor <;> grind
    · rw [e1] at e; cases e; exact leaf1 _ _ hle
    · rw [e1] at e; cases e
    · omega
  | succ f ih =>
    intro lo hi k hle l e
    rcases treeL_cases (prodL d) sim h (f + 1) lo hi k with ⟨hw, e1⟩ | ⟨hw, _, e1⟩ | ⟨_, _, ⟨h2, _⟩ | ⟨g, hg, e1⟩⟩
    · rw [e1] at e; cases e; rw [leaf0 _ _ hle hw]; simp only [lowS, highS]; constructor <;> grind
    · rw [e1] at e; cases e; exact leaf1 _ _ hle
    · omega
    · obtain rfl : g = f := by omega
      obtain ⟨m1, m2⟩ := mid_le hle
      rw [e1] at e
      obtain ⟨x, y, x1, x2, rfl⟩ := catO_some e
      obtain ⟨i1, i2⟩ := ih _ _ (k + 1) m1 _ x1
      obtain ⟨j1, j2⟩ := ih _ _ (k + 1) m2 _ x2
      rw [lowS_app, highS_app, sumB_split m1 m2]
      constructor <;> grind
end Go.Proofs.YtldokelpolbnnaaGreatDoor
end
section
set_option linter.unusedVariables false
set_option linter.unusedSimpArgs false
namespace Go.Proofs.YtldokelpolbnnaaGreatDoor
theorem ChainL.len {V : Rat → Nat} : ∀ {l : List (Rat × Rat × Int)} {a b : Rat}, ChainL V a l b → V a = V b + l.length
  | [], a, b, h => by simpa using h.2
  | x :: l, a, b, h => by
    have := ChainL.len h.2.2.2.2
    have h1 := h.2.1
    have h2 := h.2.2.2.1
    rw [List.length_cons]; omega
theorem tree_mem {all sim : List Rat} {h : Nat} : ∀ (f : Nat) (lo hi : Rat) (k : Nat) (l : List (Rat × Rat × Int)), treeL all sim h f lo hi k = some l → ∀ x ∈ l, x.2.2 = withinL all x.1 x.2.1 := by
  intro f
  induction f with
  | zero =>
    intro lo hi k l e x hx
    rcases treeL_cases all sim h 0 lo hi k with ⟨h0, e1⟩ | ⟨h0, _, e1⟩ | ⟨h0, h1, ⟨_, e1⟩ | ⟨g, hg, _⟩⟩
    · rw [e1] at e; cases e; simp at hx
    · rw [e1] at e; cases e; simp at hx; subst hx; rfl
    · rw [e1] at e; cases e
    · omega
  | succ f ih =>
    intro lo hi k l e x hx
    rcases treeL_cases all sim h (f + 1) lo hi k with ⟨h0, e1⟩ | ⟨h0, _, e1⟩ | ⟨h0, h1, ⟨h2, _⟩ | ⟨g, hg, e1⟩⟩
    · rw [e1] at e; cases e; simp at hx
    · rw [e1] at e; cases e; simp at hx; subst hx; rfl
    · omega
    · obtain rfl : g = f := by omega
      rw [e1] at e
      obtain ⟨y, z, x1, x2, rfl⟩ := catO_some e
      rcases List.mem_append.1 hx with hx | hx
      · exact ih _ _ _ _ x1 x hx
      · exact ih _ _ _ _ x2 x hx
def mulS : List (Rat × Rat × Int) → Int
  | [] => 0
  | x :: l => x.2.2 + mulS l
theorem mulS_app : ∀ (l l' : List (Rat × Rat × Int)), mulS (l ++ l') = mulS l + mulS l'
  | [], l' => by simp [mulS]
  | x :: l, l' => by simp only [List.cons_append, mulS, mulS_app l l']; omega
theorem tree_mul {all sim : List Rat} {h : Nat} (F : Fine all sim) : ∀ (f : Nat) (lo hi : Rat) (k : Nat), lo ≤ hi → ∀ l, treeL all sim h f lo hi k = some l → mulS l = withinL all lo hi := by
  intro f
  induction f with
  | zero =>
    intro lo hi k hle l e
    rcases treeL_cases all sim h 0 lo hi k with ⟨h0, e1⟩ | ⟨h0, _, e1⟩ | ⟨h0, h1, ⟨_, e1⟩ | ⟨g, hg, _⟩⟩
    · rw [e1] at e; cases e; rw [F.s1 _ _ hle h0]; rfl
    · rw [e1] at e; cases e; simp [mulS]
    · rw [e1] at e; cases e
    · omega
  | succ f ih =>
    intro lo hi k hle l e
    rcases treeL_cases all sim h (f + 1) lo hi k with ⟨h0, e1⟩ | ⟨h0, _, e1⟩ | ⟨h0, h1, ⟨h2, _⟩ | ⟨g, hg, e1⟩⟩
    · rw [e1] at e; cases e; rw [F.s1 _ _ hle h0]; rfl
    · rw [e1] at e; cases e; simp [mulS]
    · omega
    · obtain rfl : g = f := by omega
      obtain ⟨m1, m2⟩ := mid_le hle
      rw [e1] at e
      obtain ⟨x, y, x1, x2, rfl⟩ := catO_some e
      rw [mulS_app, ih _ _ (k + 1) m1 _ x1, ih _ _ (k + 1) m2 _ x2, ← within_add]
end Go.Proofs.YtldokelpolbnnaaGreatDoor
end
section
set_option linter.unusedVariables false
set_option linter.unusedSimpArgs false
namespace Go.Proofs.YtldokelpolbnnaaGreatDoor
theorem m_one {x : Rat × Rat × Int} (h : x.2.2 = 1) : (x.2.2 : Rat) = 1 := by rw [h]; rfl
theorem sum_s1 {c0 a b : Rat} {l : List (Rat × Rat × Int)} (hc : ChainL (fun x => var (shiftL x [c0, 1])) a l b) (hb : var (shiftL b [c0, 1]) = 0) (hl : l.length = 1) (hm : ∀ x ∈ l, x.2.2 = 1) : lowS l ≤ -c0 ∧ -c0 ≤ highS l := by
  obtain ⟨x, rfl⟩ := List.length_eq_one_iff.1 hl
  obtain ⟨_, _, _, v1, _, v2⟩ := hc
  simp only at v1 v2
  rw [hb] at v2
  have m1 := m_one (hm x (by simp))
  have e1 := v2
  rw [shift1] at e1
  have s1 := (head_par (c0 := c0 + x.2.1 * 1) (l := [1]) rfl).1 (by rw [e1])
  have e2 : var (shiftL x.1 [c0, 1]) = 1 := by omega
  rw [shift1] at e2
  have s2 := (head_par (c0 := c0 + x.1 * 1) (l := [1]) rfl).2 (by rw [e2])
  simp only [lowS, highS, m1]
  constructor <;> grind
theorem sum_s2 {c0 c1 a b : Rat} {l : List (Rat × Rat × Int)} (hc : ChainL (fun x => var (shiftL x [c0, c1, 1])) a l b) (hb : var (shiftL b [c0, c1, 1]) = 0) (hl : l.length = 2) (hm : ∀ x ∈ l, x.2.2 = 1) : lowS l ≤ -c1 ∧ -c1 ≤ highS l := by
  obtain ⟨x, y, rfl⟩ := len2 hl
  obtain ⟨_, _, ox, v1, xy, w1, oy, v2, _, w2⟩ := hc
  simp only at v1 v2 w1 w2
  rw [hb] at w2
  have m1 := m_one (hm x (by simp))
  have m2 := m_one (hm y (by simp))
  have key : ∀ t : Rat, (var (shiftL t [c0, c1, 1]) % 2 = 0 → 0 ≤ c0 + t * c1 + t * t * 1) ∧ (var (shiftL t [c0, c1, 1]) % 2 = 1 → c0 + t * c1 + t * t * 1 ≤ 0) := fun t => by
    rw [shift2]; exact head_par rfl
  have y2 := (key y.2.1).1 (by omega)
  have y1 := (key y.1).2 (by omega)
  have x2 := (key x.2.1).2 (by omega)
  have x1 := (key x.1).1 (by omega)
  have hi := sum2 (c0 := c0) (c1 := c1) (h1 := x.2.1) (h2 := y.2.1) (by grind) (by grind) (by grind)
  have lo := low2 (c0 := c0) (c1 := c1) (l1 := x.1) (l2 := y.1) (by grind) (by grind) (by grind)
  simp only [lowS, highS, m1, m2]
  constructor <;> grind
theorem sum_s3 {c0 c1 c2 a b : Rat} {l : List (Rat × Rat × Int)} (hc : ChainL (fun x => var (shiftL x [c0, c1, c2, 1])) a l b) (hb : var (shiftL b [c0, c1, c2, 1]) = 0) (hl : l.length = 3) (hm : ∀ x ∈ l, x.2.2 = 1) : lowS l ≤ -c2 ∧ -c2 ≤ highS l := by
  obtain ⟨x, y, z, rfl⟩ := len3 hl
  obtain ⟨_, _, ox, v1, xy, w1, oy, v2, yz, w2, oz, v3, _, w3⟩ := hc
  simp only at v1 v2 v3 w1 w2 w3
  rw [hb] at w3
  have m1 := m_one (hm x (by simp))
  have m2 := m_one (hm y (by simp))
  have m3 := m_one (hm z (by simp))
  have key : ∀ t : Rat, (var (shiftL t [c0, c1, c2, 1]) % 2 = 0 → 0 ≤ c0 + t * c1 + t * t * c2 + t * t * t * 1) ∧ (var (shiftL t [c0, c1, c2, 1]) % 2 = 1 → c0 + t * c1 + t * t * c2 + t * t * t * 1 ≤ 0) := fun t => by
    rw [shift3]; exact head_par rfl
  have z2 := (key z.2.1).1 (by omega)
  have z1 := (key z.1).2 (by omega)
  have y2 := (key y.2.1).2 (by omega)
  have y1 := (key y.1).1 (by omega)
  have x2 := (key x.2.1).1 (by omega)
  have x1 := (key x.1).2 (by omega)
  have hi := sum3 (c0 := c0) (c1 := c1) (c2 := c2) (h1 := x.2.1) (h2 := y.2.1) (h3 := z.2.1) (by grind) (by grind) (by grind) (by grind) (by grind)
  have lo := low3 (c0 := c0) (c1 := c1) (c2 := c2) (l1 := x.1) (l2 := y.1) (l3 := z.1) (by grind) (by grind) (by grind) (by grind) (by grind)
  simp only [lowS, highS, m1, m2, m3]
  constructor <;> grind
theorem sum_s4 {c0 c1 c2 c3 a b : Rat} {l : List (Rat × Rat × Int)} (hc : ChainL (fun x => var (shiftL x [c0, c1, c2, c3, 1])) a l b) (hb : var (shiftL b [c0, c1, c2, c3, 1]) = 0) (hl : l.length = 4) (hm : ∀ x ∈ l, x.2.2 = 1) : lowS l ≤ -c3 ∧ -c3 ≤ highS l := by
  obtain ⟨x, y, z, w, rfl⟩ := len4 hl
  obtain ⟨_, _, ox, v1, xy, w1, oy, v2, yz, w2, oz, v3, zw, w3, ow, v4, _, w4⟩ := hc
  simp only at v1 v2 v3 v4 w1 w2 w3 w4
  rw [hb] at w4
  have m1 := m_one (hm x (by simp))
  have m2 := m_one (hm y (by simp))
  have m3 := m_one (hm z (by simp))
  have m4 := m_one (hm w (by simp))
  have key : ∀ t : Rat, (var (shiftL t [c0, c1, c2, c3, 1]) % 2 = 0 → 0 ≤ c0 + t * c1 + t * t * c2 + t * t * t * c3 + t * t * t * t * 1) ∧ (var (shiftL t [c0, c1, c2, c3, 1]) % 2 = 1 → c0 + t * c1 + t * t * c2 + t * t * t * c3 + t * t * t * t * 1 ≤ 0) := fun t => by
    rw [shift4]; exact head_par rfl
  have t2 := (key w.2.1).1 (by omega)
  have t1 := (key w.1).2 (by omega)
  have z2 := (key z.2.1).2 (by omega)
  have z1 := (key z.1).1 (by omega)
  have y2 := (key y.2.1).1 (by omega)
  have y1 := (key y.1).2 (by omega)
  have x2 := (key x.2.1).2 (by omega)
  have x1 := (key x.1).1 (by omega)
  have hi := sum4 (c0 := c0) (c1 := c1) (c2 := c2) (c3 := c3) (h1 := x.2.1) (h2 := y.2.1) (h3 := z.2.1) (h4 := w.2.1) (by grind) (by grind) (by grind) (by grind) (by grind) (by grind) (by grind)
  have lo := low4 (c0 := c0) (c1 := c1) (c2 := c2) (c3 := c3) (l1 := x.1) (l2 := y.1) (l3 := z.1) (l4 := w.1) (by grind) (by grind) (by grind) (by grind) (by grind) (by grind) (by grind)
  simp only [lowS, highS, m1, m2, m3, m4]
  constructor <;> grind
end Go.Proofs.YtldokelpolbnnaaGreatDoor
end
section
set_option linter.unusedVariables false
set_option linter.unusedSimpArgs false
namespace Go.Proofs.YtldokelpolbnnaaGreatDoor
theorem shift_nz (x : Rat) {p : List Rat} (h : p ≠ []) (hl : gR p (p.length - 1) ≠ 0) : ∃ q ∈ shiftL x p, q ≠ 0 := by
  have e := shift_last x p.length 0 p h
  have hlen : (shiftL x p).length = p.length := shiftL_len x p
  have hpos := List.length_pos_iff.2 h
  refine ⟨gR (shiftL x p) (p.length - 1), gR_mem (by omega), ?_⟩
  intro e'
  exact hl (by rw [← e]; exact e')
theorem var_deg (x : Rat) {p : List Rat} (h : p ≠ []) (hl : gR p (p.length - 1) ≠ 0) : var (shiftL x p) + 1 ≤ p.length := by
  have := var_alt (shiftL x p) false (shift_nz x h hl)
  rw [shiftL_len] at this
  omega
theorem ChainL.fall {V : Rat → Nat} : ∀ {l : List (Rat × Rat × Int)} {a b : Rat}, ChainL V a l b → ∀ x ∈ l, V x.2.1 + 1 = V x.1
  | [], a, b, h, x, hx => by simp at hx
  | y :: l, a, b, h, x, hx => by
    rcases List.mem_cons.1 hx with rfl | hx
    · exact h.2.2.2.1
    · exact ChainL.fall h.2.2.2.2 x hx
theorem V_scale {k : Rat} (hk : k ≠ 0) (p : List Rat) (hp : p.length ≤ 5) : (fun x => var (shiftL x (p.map (· / k)))) = fun x => var (shiftL x p) := by
  funext x; rw [shift_scale _ _ _ hp, var_scale hk]
theorem cntB_le (a b : Rat) : ∀ d : List Rat, cntB d a b ≤ d.length := fun d => List.length_filter_le _ _
def sumL : List Rat → Rat
  | [] => 0
  | e :: d => e + sumL d
theorem sumB_all {a b : Rat} : ∀ d : List Rat, cntB d a b = d.length → sumB d a b = sumL d
  | [], _ => rfl
  | e :: d, h => by
    rw [cntB_cons, List.length_cons] at h
    have h1 := cntB_le a b d
    simp only [sumB, sumL]
    by_cases c : a < e ∧ e ≤ b
    · rw [if_pos c] at h ⊢; rw [sumB_all d (by omega)]
    · rw [if_neg c] at h; omega
theorem prodL_sum (d : List Rat) (h0 : d ≠ []) (h4 : d.length ≤ 4) : gR (prodL d) (d.length - 1) = -(sumL d) := by
  match d, h0, h4 with
  | [a], _, _ => simp [prodL, mulL, gR, sumL]; grind
  | [a, b], _, _ => simp [prodL, mulL, gR, sumL]; grind
  | [a, b, c], _, _ => simp [prodL, mulL, gR, sumL]; grind
  | [a, b, c, d], _, _ => simp [prodL, mulL, gR, sumL]; grind
theorem len5 {α : Type} {l : List α} (h : l.length = 5) : ∃ a b c d e, l = [a, b, c, d, e] := by
  cases l with
  | nil => simp at h
  | cons a l => obtain ⟨b, c, d, e, rfl⟩ := len4 (l := l) (by simpa using h); exact ⟨a, b, c, d, e, rfl⟩
theorem sums1 {p s : List Rat} {k E : Rat} {n h f j : Nat} {l : List (Rat × Rat × Int)} (hk : k ≠ 0) (hs : s = p.map (· / k)) (hp : p.length = n + 1) (h1 : 1 ≤ n) (h4 : n ≤ 4) (ht : gR p n = 1) (hE : -E < E) (hall : withinL p (-E) E = (n : Int)) (hl : treeL p s h f (-E) E j = some l) :
    lowS l ≤ -(gR p (n - 1)) ∧ -(gR p (n - 1)) ≤ highS l := by
  have hc := tree_chain f (-E) E j hE l hl
  rw [hs, V_scale hk p (by omega)] at hc
  have hne : p ≠ [] := by intro e; rw [e] at hp; simp at hp
  have hd := var_deg (-E) hne (by rw [hp, Nat.add_sub_cancel, ht]; decide)
  rw [within_var] at hall
  have hb : var (shiftL E p) = 0 := by omega
  have hlen := hc.len
  have hll : l.length = n := by omega
  have hm : ∀ x ∈ l, x.2.2 = 1 := fun x hx => by
    have h1 := tree_mem f (-E) E j l hl x hx
    have h2 := hc.fall x hx
    rw [h1, within_var]
    omega
  clear hs hd hall hlen hl hne
  match n, h1, h4 with
  | 1, _, _ =>
    obtain ⟨a, b, rfl⟩ := len2 hp
    obtain rfl : b = 1 := by simpa [gR] using ht
    have := sum_s1 hc hb hll hm
    simpa [gR] using this
  | 2, _, _ =>
    obtain ⟨a, b, c, rfl⟩ := len3 hp
    obtain rfl : c = 1 := by simpa [gR] using ht
    have := sum_s2 hc hb hll hm
    simpa [gR] using this
  | 3, _, _ =>
    obtain ⟨a, b, c, d, rfl⟩ := len4 hp
    obtain rfl : d = 1 := by simpa [gR] using ht
    have := sum_s3 hc hb hll hm
    simpa [gR] using this
  | 4, _, _ =>
    obtain ⟨a, b, c, d, e, rfl⟩ := len5 hp
    obtain rfl : e = 1 := by simpa [gR] using ht
    have := sum_s4 hc hb hll hm
    simpa [gR] using this
theorem sums2 {d s : List Rat} {E : Rat} {h f j : Nat} {l : List (Rat × Rat × Int)} (F : Fine (prodL d) s) (h0 : d ≠ []) (h4 : d.length ≤ 4) (hE : -E < E) (hall : withinL (prodL d) (-E) E = (d.length : Int)) (hl : treeL (prodL d) s h f (-E) E j = some l) :
    lowS l ≤ -(gR (prodL d) (d.length - 1)) ∧ -(gR (prodL d) (d.length - 1)) ≤ highS l := by
  have hle : -E ≤ E := by grind
  have key := tree_split F h0 h4 f (-E) E j hle l hl
  rw [within_split' hle h0 h4] at hall
  rw [sumB_all d (by omega)] at key
  rw [prodL_sum d h0 h4, Rat.neg_neg]
  exact key
theorem quad_pair {q0 q1 l1 h1 l2 h2 : Rat} (o1 : l1 < h1) (o2 : h1 ≤ l2) (o3 : l2 < h2) (a1 : var (shiftL l1 [q0, q1, 1]) = 2) (b1 : var (shiftL h1 [q0, q1, 1]) = 1) (a2 : var (shiftL l2 [q0, q1, 1]) = 1) (b2 : var (shiftL h2 [q0, q1, 1]) = 0) : l1 + l2 ≤ -q1 ∧ -q1 ≤ h1 + h2 := by
  have key : ∀ t : Rat, (var (shiftL t [q0, q1, 1]) % 2 = 0 → 0 ≤ q0 + t * q1 + t * t * 1) ∧ (var (shiftL t [q0, q1, 1]) % 2 = 1 → q0 + t * q1 + t * t * 1 ≤ 0) := fun t => by
    rw [shift2]; exact head_par rfl
  have y2 := (key h2).1 (by omega)
  have y1 := (key l2).2 (by omega)
  have x2 := (key h1).2 (by omega)
  have x1 := (key l1).1 (by omega)
  have hi := sum2 (c0 := q0) (c1 := q1) (h1 := h1) (h2 := h2) (by grind) (by grind) (by grind)
  have lo := low2 (c0 := q0) (c1 := q1) (l1 := l1) (l2 := l2) (by grind) (by grind) (by grind)
  exact ⟨lo, hi⟩
theorem V_mul1 {r q0 q1 : Rat} (h : 4 * q0 ≤ q1 * q1) (x : Rat) : var (shiftL x (mulL r 0 [q0, q1, 1])) = var (shiftL x [q0, q1, 1]) + (if x < r then 1 else 0) := by
  rw [shift_mul1, shift2]
  have e := cnt1 (q0 := q0 + x * q1 + x * x * 1) (q1 := q1 + 2 * x * 1) (disc_shift h x) (r - x)
  rw [e]
  congr 1
  by_cases c : x < r
  · rw [if_pos c, if_pos (by grind)]
  · rw [if_neg c, if_neg (by grind)]
theorem m_two {x : Rat × Rat × Int} (h : x.2.2 = 2) : (x.2.2 : Rat) = 2 := by rw [h]; rfl
theorem sums3 {r q0 q1 k E : Rat} {s : List Rat} {h f j : Nat} {l : List (Rat × Rat × Int)} (hk : k ≠ 0) (hd : 4 * q0 ≤ q1 * q1) (hs : s = (mulL r 0 [q0, q1, 1]).map (· / k)) (hE : -E < E) (hall : withinL (mulL r 0 (mulL r 0 [q0, q1, 1])) (-E) E = 4) (hl : treeL (mulL r 0 (mulL r 0 [q0, q1, 1])) s h f (-E) E j = some l) :
    lowS l ≤ 2 * r - q1 ∧ 2 * r - q1 ≤ highS l := by
  have hc := tree_chain f (-E) E j hE l hl
  have hle : -E ≤ E := by grind
  rw [hs, V_scale hk _ (by rw [mulL_length]; simp)] at hc
  rw [funext fun x => V_mul1 (r := r) hd x] at hc
  rw [within_mul2 hd hle] at hall
  have hq := var_deg (-E) (p := [q0, q1, 1]) (by simp) (by simp [gR])
  simp only [List.length_cons, List.length_nil] at hq
  rw [within_var] at hall
  have hin : -E < r ∧ r ≤ E := by
    by_cases c : -E < r ∧ r ≤ E
    · exact c
    · rw [if_neg c] at hall; omega
  rw [if_pos hin] at hall
  have hV0 : var (shiftL (-E) [q0, q1, 1]) = 2 := by omega
  have hV1 : var (shiftL E [q0, q1, 1]) = 0 := by omega
  have hlen := hc.len
  rw [if_pos hin.1, if_neg (show ¬ E < r by grind), hV0, hV1] at hlen
  obtain ⟨x, y, z, rfl⟩ := len3 (show l.length = 3 by omega)
  have hm : ∀ t ∈ [x, y, z], t.1 < t.2.1 → t.2.2 = withinL [q0, q1, 1] t.1 t.2.1 + 2 * ((if t.1 < r ∧ r ≤ t.2.1 then 1 else 0 : Nat) : Int) := fun t hx hlt => by
    have h1 := tree_mem f (-E) E j _ hl t hx
    rw [h1, within_mul2 hd (by grind)]
  obtain ⟨ax, v0, ox, v1, xy, w1, oy, v2, yz, w2, oz, v3, ze, w3⟩ := hc
  simp only at v0 v1 v2 v3 w1 w2 w3
  have mx := hm x (by simp) ox
  have my := hm y (by simp) oy
  have mz := hm z (by simp) oz
  clear hm hl hall hs
  rw [within_var] at mx my mz
  have d1 := var_mono (show x.1 ≤ x.2.1 by grind) [q0, q1, 1] (by simp)
  have d2 := var_mono (show y.1 ≤ y.2.1 by grind) [q0, q1, 1] (by simp)
  have d3 := var_mono (show z.1 ≤ z.2.1 by grind) [q0, q1, 1] (by simp)
  have e1 := var_mono ax [q0, q1, 1] (by simp)
  have e2 := var_mono xy [q0, q1, 1] (by simp)
  have e3 := var_mono yz [q0, q1, 1] (by simp)
  have e4 := var_mono ze [q0, q1, 1] (by simp)
  have hr1 := hin.1
  have hr2 := hin.2
  rw [if_pos hr1, hV0] at v0
  rw [if_neg (show ¬ E < r by grind), hV1] at w3
  by_cases c1 : x.2.1 < r
  · rw [if_pos (show x.1 < r by grind), if_pos c1] at v1
    rw [if_neg (show ¬ (x.1 < r ∧ r ≤ x.2.1) by grind)] at mx
    rw [if_pos c1] at w1
    by_cases c2 : y.2.1 < r
    · rw [if_pos (show y.1 < r by grind), if_pos c2] at v2
      rw [if_neg (show ¬ (y.1 < r ∧ r ≤ y.2.1) by grind)] at my
      rw [if_pos c2] at w2
      have c3 : z.1 < r ∧ r ≤ z.2.1 := by
        constructor
        · by_cases c : z.1 < r
          · exact c
          · rw [if_neg c] at w2; rw [if_neg c] at v3; rw [if_neg (show ¬ z.2.1 < r by grind)] at v3 w3; rw [if_pos (show y.1 < r by grind)] at w1; rw [if_pos (show x.1 < r by grind)] at v0; omega
        · by_cases c : z.2.1 < r
          · rw [if_pos c] at w3; omega
          · grind
      rw [if_pos c3] at mz
      rw [if_pos c3.1, if_neg (show ¬ z.2.1 < r by grind)] at v3
      rw [if_pos c3.1] at w2
      rw [if_pos (show y.1 < r by grind)] at w1
      rw [if_pos (show x.1 < r by grind)] at v0
      rw [if_neg (show ¬ z.2.1 < r by grind)] at w3
      have m1 := m_one (show x.2.2 = 1 by omega)
      have m2 := m_one (show y.2.2 = 1 by omega)
      have m3 := m_two (show z.2.2 = 2 by omega)
      obtain ⟨lo, hi⟩ := quad_pair (q0 := q0) (q1 := q1) ox xy oy (by omega) (by omega) (by omega) (by omega)
      simp only [lowS, highS, m1, m2, m3]
      constructor <;> grind
    · by_cases c3 : y.1 < r
      · have c4 : y.1 < r ∧ r ≤ y.2.1 := by grind
        rw [if_pos c4] at my
        rw [if_pos c3, if_neg c2] at v2
        rw [if_pos c3] at w1
        rw [if_neg c2, if_neg (show ¬ z.1 < r by grind)] at w2
        rw [if_neg (show ¬ z.1 < r by grind), if_neg (show ¬ z.2.1 < r by grind)] at v3
        rw [if_neg (show ¬ (z.1 < r ∧ r ≤ z.2.1) by grind)] at mz
        rw [if_neg (show ¬ z.2.1 < r by grind)] at w3
        rw [if_pos (show x.1 < r by grind)] at v0
        have m1 := m_one (show x.2.2 = 1 by omega)
        have m2 := m_two (show y.2.2 = 2 by omega)
        have m3 := m_one (show z.2.2 = 1 by omega)
        obtain ⟨lo, hi⟩ := quad_pair (q0 := q0) (q1 := q1) ox (show x.2.1 ≤ z.1 by grind) oz (by omega) (by omega) (by omega) (by omega)
        simp only [lowS, highS, m1, m2, m3]
        constructor <;> grind
      · rw [if_neg c3] at w1 v2
        rw [if_neg c2] at v2 w2
        rw [if_neg (show ¬ z.1 < r by grind)] at w2 v3
        rw [if_neg (show ¬ z.2.1 < r by grind)] at v3 w3
        rw [if_pos (show x.1 < r by grind)] at v0
        omega
  · by_cases c2 : x.1 < r
    · rw [if_pos (show x.1 < r ∧ r ≤ x.2.1 by grind)] at mx
      rw [if_pos c2] at v0
      rw [if_pos c2, if_neg c1] at v1
      rw [if_neg c1, if_neg (show ¬ y.1 < r by grind)] at w1
      rw [if_neg (show ¬ y.1 < r by grind), if_neg (show ¬ y.2.1 < r by grind)] at v2
      rw [if_neg (show ¬ y.2.1 < r by grind), if_neg (show ¬ z.1 < r by grind)] at w2
      rw [if_neg (show ¬ z.1 < r by grind), if_neg (show ¬ z.2.1 < r by grind)] at v3
      rw [if_neg (show ¬ (y.1 < r ∧ r ≤ y.2.1) by grind)] at my
      rw [if_neg (show ¬ (z.1 < r ∧ r ≤ z.2.1) by grind)] at mz
      rw [if_neg (show ¬ z.2.1 < r by grind)] at w3
      have m1 := m_two (show x.2.2 = 2 by omega)
      have m2 := m_one (show y.2.2 = 1 by omega)
      have m3 := m_one (show z.2.2 = 1 by omega)
      obtain ⟨lo, hi⟩ := quad_pair (q0 := q0) (q1 := q1) oy yz oz (by omega) (by omega) (by omega) (by omega)
      simp only [lowS, highS, m1, m2, m3]
      constructor <;> grind
    · rw [if_neg c2] at v0
      omega
theorem sums4 {v u k E : Rat} {s : List Rat} {h f j : Nat} {l : List (Rat × Rat × Int)} (hk : k ≠ 0) (hd : 4 * v ≤ u * u) (hs : s = [v, u, 1].map (· / k)) (hE : -E < E) (hall : withinL [v * v, 2 * u * v, u * u + 2 * v, 2 * u, 1] (-E) E = 4) (hl : treeL [v * v, 2 * u * v, u * u + 2 * v, 2 * u, 1] s h f (-E) E j = some l) :
    lowS l ≤ -(2 * u) ∧ -(2 * u) ≤ highS l := by
  have hc := tree_chain f (-E) E j hE l hl
  rw [hs, V_scale hk _ (by simp)] at hc
  rw [within_sq hd, within_var] at hall
  have hq := var_deg (-E) (p := [v, u, 1]) (by simp) (by simp [gR])
  simp only [List.length_cons, List.length_nil] at hq
  have hlen := hc.len
  obtain ⟨x, y, rfl⟩ := len2 (show l.length = 2 by omega)
  have hm : ∀ x' ∈ [x, y], x'.2.2 = 2 := fun x' hx => by
    have h1 := tree_mem f (-E) E j _ hl x' hx
    have h2 := hc.fall x' hx
    rw [h1, within_sq hd, within_var]
    omega
  have m1 := m_two (hm x (by simp))
  have m2 := m_two (hm y (by simp))
  obtain ⟨_, v0, ox, v1, xy, w1, oy, v2, _, w2⟩ := hc
  simp only at v0 v1 v2 w1 w2
  obtain ⟨lo, hi⟩ := quad_pair (q0 := v) (q1 := u) ox xy oy (by omega) (by omega) (by omega) (by omega)
  simp only [lowS, highS, m1, m2]
  constructor <;> grind
theorem Cls.sums {p s : List Rat} {E : Rat} {n h f j : Nat} {l : List (Rat × Rat × Int)} (hc : Cls p s) (F : Fine p s) (hp : p.length = n + 1) (h1 : 1 ≤ n) (h4 : n ≤ 4) (ht : gR p n = 1) (hE : -E < E) (hall : withinL p (-E) E = (n : Int)) (hl : treeL p s h f (-E) E j = some l) :
    lowS l ≤ -(gR p (n - 1)) ∧ -(gR p (n - 1)) ≤ highS l := by
  rcases hc with ⟨k, hk, hs⟩ | ⟨d, d', k, hk, rfl, rfl, hl3, hm⟩
  · exact sums1 hk hs hp h1 h4 ht hE hall hl
  · rw [prodL_length] at hp
    obtain rfl : d.length = n := by omega
    have h0 : d ≠ [] := by intro e; rw [e] at h1; simp at h1
    exact sums2 F h0 h4 hE hall hl
theorem Cls4.sums {p s : List Rat} {E : Rat} {h f j : Nat} {l : List (Rat × Rat × Int)} (hc : Cls4 p s) (hd : Disc4 p) (F : Fine p s) (hp : p.length = 5) (ht : gR p 4 = 1) (hE : -E < E) (hall : withinL p (-E) E = 4) (hl : treeL p s h f (-E) E j = some l) :
    lowS l ≤ -(gR p 3) ∧ -(gR p 3) ≤ highS l := by
  rcases hc with ⟨k, hk, hs⟩ | ⟨d, d', k, hk, rfl, rfl, hl3, hm⟩ | ⟨x, q0, q1, k, hk, rfl, hs⟩ | ⟨v, u, k, hk, rfl, hs⟩
  · exact sums1 (n := 4) hk hs hp (by omega) (by omega) ht hE hall hl
  · rw [prodL_length] at hp
    have h0 : d ≠ [] := by intro e; rw [e] at hp; simp at hp
    have := sums2 F h0 (by omega) hE (by rw [hall]; omega) hl
    rwa [show d.length - 1 = 3 by omega] at this
  · have := sums3 hk (hd.1 x q0 q1 rfl) hs hE hall hl
    have e : -(gR (mulL x 0 (mulL x 0 [q0, q1, 1])) 3) = 2 * x - q1 := by simp [mulL, gR]; grind
    rw [e]; exact this
  · have := sums4 hk (hd.2 v u rfl) hs hE hall hl
    simpa [gR] using this
theorem chk_of {p : List Rat} {V : Rat → Nat} : ∀ (l : List (Rat × Rat × Int)) (pr : Option Rat) (s : Int) (a b : Rat), ChainL V a l b → (∀ r, pr = some r → r ≤ a) → (∀ x ∈ l, smallB x.1 = true ∧ smallB x.2.1 = true ∧ x.2.2 = withinL p x.1 x.2.1 ∧ 1 ≤ x.2.2) → chkGo p pr l s = some (s + mulS l)
  | [], pr, s, a, b, _, _, _ => by simp [chkGo, mulS]
  | x :: l, pr, s, a, b, hc, hpr, hx => by
    obtain ⟨h1, h2, h3, h4⟩ := hx x (by simp)
    obtain ⟨c1, c2, c3, c4, c5⟩ := hc
    have ih := chk_of l (some x.2.1) (s + x.2.2) x.2.1 b c5 (fun r hr => by cases hr; exact Rat.le_refl) (fun y hy => hx y (List.mem_cons_of_mem _ hy))
    have hok : okPrev pr x.1 = true := by
      cases pr with
      | none => rfl
      | some r => simp only [okPrev, decide_eq_true_eq]; exact Rat.le_trans (hpr r rfl) c1
    have hw : lessL p x.2.1 + (equalL p x.2.1 : Int) - (lessL p x.1 + (equalL p x.1 : Int)) = x.2.2 := by rw [h3]; unfold withinL; omega
    rw [chkGo, h1, h2, hok, decide_eq_true c3, decide_eq_true hw, decide_eq_true h4]
    simp only [Bool.and_self, if_true]
    rw [ih, mulS]
    congr 1; omega
end Go.Proofs.YtldokelpolbnnaaGreatDoor
end
section
set_option linter.unusedSectionVars false
set_option linter.unusedVariables false
namespace Go.Proofs.YtldokelpolbnnaaGreatDoor
open Go.RowKit
end Go.Proofs.YtldokelpolbnnaaGreatDoor
end
section
set_option linter.unusedSectionVars false
set_option linter.unusedVariables false
namespace Go.Proofs.YtldokelpolbnnaaGreatDoor
open Go.RowKit
theorem thin_tw {B : List (List Rat)} {n : Nat} (hT : ThinOK B n) : ∀ r ∈ B, ∀ q ∈ r, Tw q := fun r hr q hq => by
  obtain ⟨i, hi, rfl⟩ := List.mem_iff_getElem.1 hr
  rw [← gM_at hi] at hq
  exact ((hT i hi).2 q hq).smR.tw
theorem tx_zero : Tx 0 := In.zero.tx (by omega)
end Go.Proofs.YtldokelpolbnnaaGreatDoor
end
section
set_option linter.unusedVariables false
set_option linter.unusedSimpArgs false
namespace Go.Proofs.YtldokelpolbnnaaGreatDoor
theorem cls_of {A : List (List Rat)} {n : Nat} (hl : A.length = n) (h1 : 1 ≤ n) (h3 : n ≤ 3) (hT : ThinOK A n) (hs : ∀ i j, j < i → i < n → gR (gM A i) j = gR (gM A j) i) : Cls (charL A) (simpL 6 (charL A)) := by
  have hq := thin_sq hl hT
  match n, h1, h3 with
  | 1, _, _ =>
    obtain ⟨a, rfl⟩ := sq1 hq
    rw [char1]; exact cls1 _ 5
  | 2, _, _ =>
    obtain ⟨a, b, c, d, rfl⟩ := sq2 hq
    rw [char2]; exact cls2 _ _ 4
  | 3, _, _ =>
    obtain ⟨a, b, c, d, e, f, g, h, i, rfl⟩ := sq3 hq
    rw [char3]; exact cls3 _ _ _ 3
theorem cls4_of {A : List (List Rat)} (hl : A.length = 4) (hT : ThinOK A 4) (hs : ∀ i j, j < i → i < 4 → gR (gM A i) j = gR (gM A j) i) : Cls4 (charL A) (simpL 6 (charL A)) ∧ Disc4 (charL A) := by
  have hq := thin_sq hl hT
  obtain ⟨a, b, c, d, b', e, f, g, c', f', h, i, d', g', i', j, rfl⟩ := sq4 hq
  obtain rfl : b' = b := hs 1 0 (by omega) (by omega)
  obtain rfl : c' = c := hs 2 0 (by omega) (by omega)
  obtain rfl : d' = d := hs 3 0 (by omega) (by omega)
  obtain rfl : f' = f := hs 2 1 (by omega) (by omega)
  obtain rfl : g' = g := hs 3 1 (by omega) (by omega)
  obtain rfl : i' = i := hs 3 2 (by omega) (by omega)
  exact ⟨by rw [char4]; exact cls4 _ _ _ _ 2, disc4 _ _ _ _ _ _ _ _ _ _⟩
def leavesL (A : List (List Rat)) (h : Nat) : Option (List (Rat × Rat × Int)) := treeL (charL A) (simpL 6 (charL A)) h 60 (-(bndL 5 A + 1)) (bndL 5 A + 1) 0
structure LeafOK (A : List (List Rat)) (n : Nat) (l : List (Rat × Rat × Int)) : Prop where
  low : lowS l ≤ trL A
  high : trL A ≤ highS l
  chk : chkGo (charL A) none l 0 = some (n : Int)
  mul : mulS l = (n : Int)
  small : ∀ x ∈ l, smallB x.1 = true ∧ smallB x.2.1 = true ∧ 1 ≤ x.2.2 ∧ x.2.2 ≤ 5
  len : l.length ≤ 5
structure SpecA (A : List (List Rat)) (n : Nat) : Prop where
  F : SpecF A n
  sz : SzL (charL A) 1
  tx : ∀ q ∈ charL A, Tx q
  txt : Tx (trL A)
  leaf : ∀ h l, h ≤ 60 → leavesL A h = some l → LeafOK A n l
theorem P2.lt {o : Rat} (h : P2 o) : -(o + 1) < o + 1 := by rcases h with rfl | rfl | rfl | rfl | rfl <;> grind
theorem leaf_of {A : List (List Rat)} {n h : Nat} {l : List (Rat × Rat × Int)} (F : SpecF A n) (hn : n ≤ 4) (hlt : -(bndL 5 A + 1) < bndL 5 A + 1) (hl : leavesL A h = some l) (hs : lowS l ≤ trL A ∧ trL A ≤ highS l) : LeafOK A n l := by
  have hm := tree_mul F.fine 60 _ _ 0 F.le l hl
  rw [F.all] at hm
  have hc := tree_chain 60 _ _ 0 hlt l hl
  have hsm := tree_small 60 _ _ 0 rfl F.dn F.dp l hl
  have hmem := tree_mem 60 _ _ 0 l hl
  have hpos : ∀ x ∈ l, x.1 ≤ x.2.1 → 1 ≤ x.2.2 := fun x hx hle => by
    have h1 := hc.fall x hx
    rw [hmem x hx]
    refine F.fine.s2 _ _ hle ?_
    rw [within_var]; omega
  have hord : ∀ {l : List (Rat × Rat × Int)} {a b : Rat}, ChainL (fun x => var (shiftL x (simpL 6 (charL A)))) a l b → ∀ x ∈ l, x.1 ≤ x.2.1 := by
    intro l
    induction l with
    | nil => intro a b _ x hx; simp at hx
    | cons y l ih =>
      intro a b h x hx
      rcases List.mem_cons.1 hx with rfl | hx
      · have := h.2.2.1; grind
      · exact ih h.2.2.2.2 x hx
  have hall : ∀ x ∈ l, smallB x.1 = true ∧ smallB x.2.1 = true ∧ 1 ≤ x.2.2 := fun x hx => ⟨(hsm x hx).1, (hsm x hx).2, hpos x hx (hord hc x hx)⟩
  have hall5 : ∀ x ∈ l, smallB x.1 = true ∧ smallB x.2.1 = true ∧ 1 ≤ x.2.2 ∧ x.2.2 ≤ 5 := fun x hx => ⟨(hall x hx).1, (hall x hx).2.1, (hall x hx).2.2, by
    have h1 := within_le (charL A) x.1 x.2.1
    have h2 := F.fine.lp
    rw [hmem x hx]; omega⟩
  refine ⟨hs.1, hs.2, ?_, hm, hall5, ?_⟩
  · rw [chk_of l none 0 _ _ hc (fun r hr => by cases hr) (fun x hx => ⟨(hall x hx).1, (hall x hx).2.1, hmem x hx, (hall x hx).2.2⟩), hm, Int.zero_add]
  · have h1 : ∀ l : List (Rat × Rat × Int), (∀ x ∈ l, 1 ≤ x.2.2) → (l.length : Int) ≤ mulS l := by
      intro l
      induction l with
      | nil => intro _; simp [mulS]
      | cons y l ih =>
        intro h
        have i1 := ih (fun x hx => h x (List.mem_cons_of_mem _ hx))
        have i2 := h y (by simp)
        simp only [mulS, List.length_cons]; omega
    have := h1 l (fun x hx => (hall x hx).2.2)
    rw [hm] at this
    omega
theorem specA {A : List (List Rat)} {n : Nat} (hl : A.length = n) (h1 : 1 ≤ n) (h4 : n ≤ 4) (hT : ThinOK A n) (hs : ∀ i j, j < i → i < n → gR (gM A i) j = gR (gM A j) i) : SpecA A n := by
  have hP := prod_all hl h1 (by omega) hT hs
  have hlt := (bnd_facts hl h4 hT).1.lt
  have hcl : (charL A).length = n + 1 := by rw [charL_length, hl]
  have htr : -(gR (charL A) (n - 1)) = trL A := by rw [hP.tr]; grind
  by_cases h3 : n ≤ 3
  · have F := specF3 hl h1 h3 hT hs
    refine ⟨F, hP.sz, hP.tx, hP.txt, fun h l hh hl' => leaf_of F h4 hlt hl' ?_⟩
    have := (cls_of hl h1 h3 hT hs).sums F.fine hcl h1 h4 hP.top hlt F.all hl'
    rwa [htr] at this
  · obtain rfl : n = 4 := by omega
    have F := specF4 hl hT hs
    obtain ⟨c1, c2⟩ := cls4_of hl hT hs
    refine ⟨F, hP.sz, hP.tx, hP.txt, fun h l hh hl' => leaf_of F h4 hlt hl' ?_⟩
    have := c1.sums c2 F.fine hcl hP.top hlt F.all hl'
    rwa [show (3 : Nat) = 4 - 1 from rfl, htr] at this
theorem specA0 : SpecA [] 0 := by
  have e1 : charL [] = [1] := by decide +kernel
  have e2 : simpL 6 [1] = [1] := by decide +kernel
  have e3 : derL [1] = [] := by decide +kernel
  have e4 : bndL 5 [] = 1 := by decide +kernel
  have e5 : trL [] = 0 := by decide +kernel
  have hsm : ([1] : List Rat).all smallB = true := by decide +kernel
  have s1 : SzL [1] 1 := fun q hq => by simp at hq; subst hq; exact sz_one (z := 1) (by decide)
  have hw : ∀ a b : Rat, withinL [1] a b = 0 := fun a b => by rw [within_var, shift0, shift0]; omega
  have F : SpecF [] 0 := by
    refine ⟨?_, ?_, ?_, by decide +kernel, by decide +kernel, ⟨2, by decide +kernel, by decide⟩, ⟨-2, by decide +kernel, by decide⟩, by rw [e4]; grind⟩
    · rw [e1]
      refine ⟨⟨?_, by simp, by simp, s1.mono (by omega), ?_, ?_, ?_, ?_⟩, by rw [e2]; simp, by rw [e2]; simp, by rw [e2]; decide +kernel, by rw [e2]; exact s1.mono (by omega)⟩
      · rw [e3]; exact trivial
      · rw [e3, simGo_nil]; simp
      · rw [e3, simGo_nil]; simp
      · rw [e3, simGo_nil]; exact s1.mono (by omega)
      · rw [e3, simGo_nil]; decide +kernel
    · rw [e1, e2]
      exact ⟨by simp, by simp, fun a b _ h => h, fun a b _ h => h⟩
    · rw [e1, hw]; rfl
  refine ⟨F, by rw [e1]; exact s1, by rw [e1]; exact (all_small hsm).1, by rw [e5]; exact tx_zero, fun h l hh hl => leaf_of F (by omega) (by rw [e4]; grind) hl ?_⟩
  unfold leavesL at hl
  rcases treeL_cases (charL []) (simpL 6 (charL [])) h 60 (-(bndL 5 [] + 1)) (bndL 5 [] + 1) 0 with ⟨_, e⟩ | ⟨h0, _, _⟩ | ⟨h0, _⟩
  · rw [e] at hl; cases hl
    rw [e5]; simp [lowS, highS]
  · rw [e1, e2, hw] at h0; simp at h0
  · rw [e1, e2, hw] at h0; exact absurd rfl h0
theorem specAny {A : List (List Rat)} {n : Nat} (hl : A.length = n) (h4 : n ≤ 4) (hT : ThinOK A n) (hs : ∀ i j, j < i → i < n → gR (gM A i) j = gR (gM A j) i) : SpecA A n := by
  rcases Nat.eq_zero_or_pos n with h0 | h0
  · subst h0
    obtain rfl := List.length_eq_zero_iff.1 hl
    exact specA0
  · exact specA hl h0 h4 hT hs
theorem niceSmall {x : Rat} (h : smallB x = true) (n : Nat) : NiceX x n 12 := by
  obtain ⟨h1, h2⟩ := smallB_spec h
  simp only [smallB, Bool.and_eq_true, decide_eq_true_eq] at h
  refine ⟨h1, h2, x.den, 100, by omega, ?_⟩
  have hr : ∀ r ∈ (List.replicate n x).map (fun q => [q]), ∀ q ∈ r, q = x := fun r hr q hq => by
    simp only [List.map_replicate] at hr
    have := List.eq_of_mem_replicate hr
    subst this
    simpa using hq
  refine ⟨fun r h q hq => by rw [hr r h q hq]; exact Nat.dvd_refl _, x.den_pos, ?_, fun D hD h0 => ⟨?_, fun r hr' q hq hd => ?_⟩⟩
  · exact Nat.le_trans h2.2 (by omega)
  · exact dig_of_lt (by omega) (Nat.lt_of_le_of_lt (Nat.le_of_dvd x.den_pos hD) h.2)
  · obtain rfl := hr r hr' q hq
    obtain rfl : D = q.den := Nat.dvd_antisymm hD hd
    rw [Nat.div_self q.den_pos]
    have : (q.num * ((1 : Nat) : Int)).natAbs = q.num.natAbs := by simp
    rw [this]
    exact dig_of_lt (by omega) h.1
end Go.Proofs.YtldokelpolbnnaaGreatDoor
end
section
set_option linter.unusedSectionVars false
set_option linter.unusedVariables false
namespace Go.Proofs.YtldokelpolbnnaaGreatDoor
open Go.RowKit
section rules
variable {P : Program} [Mixed P] {fn : Func} {Post : Spec} {st : List KI × S} {u m : PH}
theorem G.remU (x y z : Int) (h : stopV P (adv P st) = .bin .rem (.int .u8 x) (.int .u8 y)) (hx : 0 ≤ x) (hy : 0 < y) (hy2 : y ≤ 255) (hz : x.tmod y = z)
    (k : G P fn Post (nx (adv P st) (.int .u8 z)) u m) : G P fn Post st u m := by
  refine G.bin _ h guard_int (fun t w => ?_) k
  have h4 : ¬ y = 0 := by omega
  have h5 : 0 ≤ z ∧ z < y := by
    rw [← hz]
    exact ⟨Int.tmod_nonneg _ hx, Int.tmod_lt_of_pos x hy⟩
  simp [binOp, Op.intDiv, h4, hz]
end rules
theorem u8_i64 {z : Int} (h0 : 0 ≤ z) (h1 : z ≤ 255) : IntKind.i64.wrap z = z := i64_wrap (by omega) (by omega)
end Go.Proofs.YtldokelpolbnnaaGreatDoor
end
section
set_option linter.unusedSectionVars false
set_option linter.unusedVariables false
namespace Go.Proofs.YtldokelpolbnnaaGreatDoor
open Go.RowKit
set_option maxHeartbeats 4000000 in
theorem refTrace0 {u : PH} {v : Value} {A : List (List Rat)} (h : MatP u v (matT A)) (hs : Sq A) (hz : ∀ r ∈ A, ∀ q ∈ r, Sz q 100) (htx : Tx (trL A)) : Fn0 Tryz.prog 27 [v] u fun v' _ => v' = .tuple #[.string (mkS (ratT (trL A))), .int .i64 0] := by
  obtain ⟨a, c, rfl⟩ := h.opn
  rw [matT_length] at h ⊢
  have hle := hs.le
  refine Fn0.of Tryz.func27 (by kernel_rfl) (by kernel_rfl) ?_
  refine G.call0 _ _ (by kernel_rfl) Tryz.call67 (refShape0 h hs) ?_
  rintro v1 u1 l1 rfl
  refine G.neqF 0 0 (by kernel_rfl) (by omega) ?_
  refine G.neqF (A.length : Int) (A.length : Int) (by kernel_rfl) (by omega) ?_
  refine G.call0 _ _ (by kernel_rfl) Tryz.call17 (refOf0 (z := 0) (by omega) (by omega)) ?_
  intro v2 u2 l2 k2
  rw [show ((0 : Int) : Rat) = 0 from by decide] at k2
  obtain ⟨f2, rfl⟩ := k2.opQ
  refine G.loop (ι := Nat × Q4 × Rat) (fun i => [(0, .v (.slice a A.length c)), (7, .p 6001 0), (23, .v (.int .i64 (A.length : Int))), (24, .v (.int .i64 (i.1 : Int)))]) (fun i => [(6001, ⟨44, qc i.2.1⟩)])
    (fun i u' m' => i.1 ≤ A.length ∧ trGo A (A.length - i.1) i.1 i.2.2 = trL A ∧ Sz i.2.2 (1 + 101 * i.1) ∧ QP u' (qv i.2.1) i.2.2 ∧ m' = PH.mt) (fun i => A.length - i.1) (0, f2, 0) (by kernel_rfl) (fun _ => by kernel_rfl) ⟨by kernel_rfl, by kernel_rfl, by kernel_rfl⟩ ⟨Nat.zero_le _, rfl, sz_zero.mono (by omega), k2, rfl⟩ ?_
  rintro J ⟨i, f, s⟩ hJ u3 m3 l3 ⟨hi, htr, hsz, hf, rfl⟩
  simp only at hi htr hsz hf hJ
  by_cases hlt : i < A.length
  · refine G.lssT (i : Int) (A.length : Int) (by kernel_rfl) (by omega) ?_
    have hii : i < A[i].length := by rw [hs.len hlt]; exact hlt
    have hq : Sz A[i][i] 100 := hz _ (List.getElem_mem hlt) _ (List.getElem_mem hii)
    obtain ⟨b1, o1, b2, o2, c2, rfl, e1, e2⟩ := (h.mono (l1.trans (l2.trans l3))).cell hlt hii
    refine G.addr b1 o1 A.length c i 1 (by kernel_rfl) hlt ?_
    refine G.loadU none b1 (o1 + i * 1) _ (by kernel_rfl) (by kernel_rfl) e1 ?_
    refine G.addr b2 o2 A[i].length c2 i 1 (by kernel_rfl) hii ?_
    refine G.loadU none b2 (o2 + i * 1) _ (by kernel_rfl) (by kernel_rfl) e2 ?_
    refine G.call0 _ _ (by kernel_rfl) Tryz.call19 (refReadT (hs.tx' hlt hii)) ?_
    intro v4 u4 l4 k4
    obtain ⟨f4, rfl⟩ := k4.opQ
    refine G.call0 _ _ (by kernel_rfl) Tryz.call20 (refAdd0 (hf.mono l4) k4 (hsz.mono (by omega)) (hq.mono (by omega))) ?_
    intro v5 u5 l5 k5
    obtain ⟨f5, rfl⟩ := k5.opQ
    refine G.add (i : Int) 1 ((i + 1 : Nat) : Int) (by kernel_rfl) (by omega) (by omega) (by omega) ?_
    refine G.back (by kernel_rfl) (hJ (i + 1, f5, s + A[i][i]) _ _ _ ⟨by kernel_rfl, by kernel_rfl, by kernel_rfl⟩ ((l3.trans l4).trans l5) ⟨by dsimp only; omega, ?_, (sz_add2 hsz hq).mono (by dsimp only; omega), k5, rfl⟩ (by dsimp only; omega))
    dsimp only
    rw [← htr, show A.length - i = (A.length - (i + 1)) + 1 by omega, trGo, gM_at hlt, gR_at hii]
  · obtain rfl : i = A.length := by omega
    refine G.lssF (A.length : Int) (A.length : Int) (by kernel_rfl) (by omega) ?_
    rw [Nat.sub_self, trGo] at htr
    subst htr
    refine G.call0 _ _ (by kernel_rfl) Tryz.call41 (refGive0 hf htx) ?_
    rintro v4 u4 l4 rfl
    exact G.ret (.tuple #[.string (mkS (ratT (trL A))), .int .i64 0]) (by kernel_rfl) ⟨rfl, rfl⟩
end Go.Proofs.YtldokelpolbnnaaGreatDoor
end
section
set_option linter.unusedSectionVars false
set_option linter.unusedVariables false
namespace Go.Proofs.YtldokelpolbnnaaGreatDoor
open Go.RowKit
theorem specS {u : PH} {v : Value} {A : List (List Rat)} {n h : Nat} (ht : TabU u) (hm : MatP u v (matT A)) (hA : Nice A 12) (hS : SpecA A n) (hh : h ≤ 60) :
    Fn0 Tryz.prog 24 [v, .int .i64 (h : Int)] u fun v' u' => SpecRes u' v' (leavesL A h) := by
  obtain ⟨N, hN, e⟩ := spec_run hS.F h
  exact spectrumG (S := 1) ht hm hA hS.tx (fun _ => hS.sz) (by omega) hh hS.F.sim.simp' hS.F.sim.ne hS.F.sim.len hS.F.sim.last hS.F.sim.sz hS.F.bb hS.F.bs hN e
theorem sgnR_le {q : Rat} (h : q ≤ 0) : sgn q.num ≤ 0 := by
  rw [sgn_num]
  rcases sg_cases q with ⟨_, e⟩ | ⟨_, e⟩ | ⟨h', _⟩
  · rw [e]; decide
  · rw [e]; decide
  · grind
theorem sgnR_ge {q : Rat} (h : 0 ≤ q) : 0 ≤ sgn q.num := by
  rw [sgn_num]
  rcases sg_cases q with ⟨h', _⟩ | ⟨_, e⟩ | ⟨_, e⟩
  · grind
  · rw [e]; decide
  · rw [e]; decide
set_option maxHeartbeats 8000000 in
theorem spectrumLaw0 {u : PH} {v : Value} {ts : List Int} {kz : Int} (ht : TabU u) (hv : ListP u v 1 (intsZ ts)) (hlo : ∀ t ∈ ts, -9223372036854775808 ≤ t) (hhi : ∀ t ∈ ts, t ≤ 9223372036854775807) (hk0 : 0 ≤ kz) (hk1 : kz ≤ 255) :
    Fn0 Tryz.prog 4 [v, .int .u8 kz] u fun v' _ => v' = .bool true := by
  obtain ⟨a, c, rfl⟩ := hv.opn
  rw [intsZ_length] at hv ⊢
  refine Fn0.of Tryz.func4 (by kernel_rfl) (by kernel_rfl) ?_
  by_cases h400 : 400 < ts.length
  · refine G.gtrT (ts.length : Int) 400 (by kernel_rfl) (by omega) ?_
    refine G.call0 _ _ (by kernel_rfl) Tryz.call8 (sane0 ht) ?_
    rintro v1 u1 l1 rfl
    exact G.ret (.bool true) (by kernel_rfl) ⟨rfl, rfl⟩
  refine G.gtrF (ts.length : Int) 400 (by kernel_rfl) (by omega) ?_
  refine G.callO _ _ (by kernel_rfl) Tryz.call9 (srcNew0 hv (by omega) hlo hhi) ?_
  rintro v1 u1 m1 l1 ⟨s, rfl, rfl, hs⟩ _
  rw [mt_or]
  refine G.callA _ _ (by kernel_rfl) (by kernel_rfl) Tryz.call10 (mt_or _).symm (apart_mt _) (srcN0 (n := 5) hs (Nat.zero_le _) (by omega) (by omega)) ?_
  rintro v2 u2 m2 l2 ⟨n, k2, rfl, hn, hk2, rfl⟩ _
  rw [mt_or]
  refine G.callA _ _ (by kernel_rfl) (by kernel_rfl) Tryz.call22 (mt_or _).symm (apart_mt _) (srcSymmetric0 (n := n) (hs.mono l2) hk2 (by omega)) ?_
  rintro v3 u3 m3 l3 ⟨A, k3, hA, hAl, hAT, hAs, hk3, rfl⟩ _
  rw [mt_or]
  have hn4 : n ≤ 4 := by omega
  have hS := specAny hAl hn4 hAT hAs
  have hN := niceThin hAl hn4 hAT hAs
  have hTw := thin_tw hAT
  obtain ⟨aA, cA, rfl⟩ := hA.opn
  rw [matT_length] at hA ⊢
  obtain ⟨h, hh⟩ : ∃ h : Nat, kz.tmod 8 = (h : Int) := ⟨(kz.tmod 8).toNat, by have := Int.tmod_nonneg 8 hk0; omega⟩
  have hh5 : h < 8 := by have := Int.tmod_lt_of_pos kz (b := 8) (by omega); omega
  refine G.remU kz 8 (h : Int) (by kernel_rfl) hk0 (by omega) (by omega) hh ?_
  refine G.convI .u8 .i64 .u8 (h : Int) (h : Int) (by kernel_rfl) (u8_i64 (by omega) (by omega)) ?_
  have hl3 : PH.le u u3 := (l1.trans l2).trans l3
  refine G.call0 _ _ (by kernel_rfl) Tryz.call24 (specS (ht.mono hl3) hA hN hS (h := h) (by omega)) ?_
  intro v4 u4 l4 k4
  have hl4 : PH.le u u4 := hl3.trans l4
  have hleaf := hS.leaf h
  generalize leavesL A h = T1 at *
  cases T1 with
  | none =>
    obtain rfl : v4 = _ := k4
    refine G.neqT 3 0 (by kernel_rfl) (by omega) ?_
    refine G.eqlT 3 3 (by kernel_rfl) (by omega) ?_
    refine G.call0 _ _ (by kernel_rfl) Tryz.call8 (sane0 (ht.mono hl4)) ?_
    rintro v6 u6 l6 rfl
    refine G.drop PH.mt (by kernel_rfl) (PH.mt_le _) ?_
    exact G.ret (.bool true) (by kernel_rfl) ⟨rfl, rfl⟩
  | some l =>
    have hL := hleaf l (by omega) rfl
    obtain ⟨_, rfl, ai, ci, am, cm, rfl, hI, hM⟩ := k4
    have hsp : SpecP u4 (.agg #[.slice ai l.length ci, .slice am l.length cm]) l := ⟨ai, ci, am, cm, rfl, hI, hM⟩
    have hlen := hL.len
    have hsm := hL.small
    have hlow := hL.low
    have hhigh := hL.high
    have hmul := hL.mul
    have zero : ((0 : Int) : Rat) = 0 := by decide
    refine G.neqF 0 0 (by kernel_rfl) (by omega) ?_
    refine G.call0 _ _ (by kernel_rfl) Tryz.call25 (checkG (S := 1) (ht.mono hl4) (hA.mono l4) hN hS.tx (fun _ => hS.sz) (by omega) (fun x hx => ⟨niceSmall (hsm x hx).1 _, niceSmall (hsm x hx).2.1 _⟩) hsp (by omega) (by rw [hAl]; exact hL.chk)) ?_
    rintro v5 u5 l5 rfl
    refine G.call0 _ _ (by kernel_rfl) Tryz.call17 (refOf0 (z := 0) (by omega) (by omega)) ?_
    intro v6 u6 l6 k6
    rw [zero] at k6
    obtain ⟨f6, rfl⟩ := k6.opQ
    refine G.call0 _ _ (by kernel_rfl) Tryz.call17 (refOf0 (z := 0) (by omega) (by omega)) ?_
    intro v7 u7 l7 k7
    rw [zero] at k7
    obtain ⟨f7, rfl⟩ := k7.opQ
    refine G.loop (ι := Nat × Int × (Q4 × Rat) × (Q4 × Rat)) (fun i => [(6, .v (.slice aA A.length cA)), (7, .p 5008 0), (9, .p 8002 0), (10, .p 8003 0), (11, .v (.int .i64 i.2.1)), (51, .v (.slice ai l.length ci)), (52, .v (.int .i64 (l.length : Int))), (53, .v (.int .i64 (i.1 : Int)))])
      (fun i => [(5008, ⟨54, [.v (.slice ai l.length ci), .v (.slice am l.length cm)]⟩), (8002, ⟨44, qc i.2.2.1.1⟩), (8003, ⟨44, qc i.2.2.2.1⟩)])
      (fun i u' m' => i.1 ≤ l.length ∧ 0 ≤ i.2.1 ∧ i.2.1 ≤ 5 * (i.1 : Int) ∧ i.2.1 + mulS (l.drop i.1) = (n : Int) ∧ i.2.2.1.2 + lowS (l.drop i.1) = lowS l ∧ i.2.2.2.2 + highS (l.drop i.1) = highS l ∧ Sz i.2.2.1.2 (1 + 14 * i.1) ∧ Sz i.2.2.2.2 (1 + 14 * i.1) ∧ QP u' (qv i.2.2.1.1) i.2.2.1.2 ∧ QP u' (qv i.2.2.2.1) i.2.2.2.2 ∧ m' = s.M k3)
      (fun i => l.length - i.1) (0, 0, (f6, 0), (f7, 0)) (by kernel_rfl) (fun _ => by kernel_rfl) ⟨by kernel_rfl, by kernel_rfl, by kernel_rfl⟩
      ⟨Nat.zero_le _, by simp, by simp, by simpa using hmul, by simp; grind, by simp; grind, sz_zero.mono (by simp), sz_zero.mono (by simp), k6.mono l7, k7, rfl⟩ ?_
    rintro J ⟨i, nz, ⟨fl, ql⟩, ⟨fh, qh⟩⟩ hJ u8 m8 l8 ⟨hi, hz0, hz1, hz2, hq1, hq2, hs1, hs2, hf1, hf2, rfl⟩
    simp only at hi hz0 hz1 hz2 hq1 hq2 hs1 hs2 hf1 hf2 hJ
    have hl8 : PH.le u4 u8 := ((l5.trans l6).trans l7).trans l8
    by_cases hlt : i < l.length
    · refine G.lssT (i : Int) (l.length : Int) (by kernel_rfl) (by omega) ?_
      have hti : l[i]? = some l[i] := List.getElem?_eq_getElem hlt
      obtain ⟨t1, t2, t3, t4⟩ := hsm _ (List.getElem_mem hlt)
      rw [List.drop_eq_getElem_cons hlt] at hz2 hq1 hq2
      generalize l[i] = x at *
      simp only [mulS, lowS, highS] at hz2 hq1 hq2
      obtain ⟨x1, x2⟩ := smallB_spec t1
      obtain ⟨x3, x4⟩ := smallB_spec t2
      obtain ⟨b1, o1, rfl, e1⟩ := ListP.at' (hI.mono hl8) (j := i) (e := ivV x) (by simp [hti])
      obtain ⟨b3, o3, rfl, e3⟩ := ListP.at' (hM.mono hl8) (j := i) (e := muV x) (by simp [hti])
      refine G.addr b1 o1 l.length ci i 2 (by kernel_rfl) hlt ?_
      refine G.loadU (some 2) b1 (o1 + i * 2) (ivV x) (by kernel_rfl) (by kernel_rfl) e1 ?_
      refine G.geqF (i : Int) (l.length : Int) (by kernel_rfl) (by omega) ?_
      refine G.call0 _ _ (by kernel_rfl) Tryz.call26 (refValid0 x1) ?_
      rintro v9 u9 l9 rfl
      refine G.call0 _ _ (by kernel_rfl) Tryz.call26 (refValid0 x3) ?_
      rintro v10 u10 l10 rfl
      refine G.addr b3 o3 l.length cm i 1 (by kernel_rfl) hlt ?_
      refine G.loadU none b3 (o3 + i * 1) (muV x) (by kernel_rfl) (by kernel_rfl) (e3.mono (l9.trans l10)) ?_
      refine G.call0 _ _ (by kernel_rfl) Tryz.call19 (refReadT x1) ?_
      intro v11 u11 l11 k11
      obtain ⟨f11, rfl⟩ := k11.opQ
      refine G.call0 _ _ (by kernel_rfl) Tryz.call17 (refOf0 (z := x.2.2) (by omega) (by omega)) ?_
      intro v12 u12 l12 k12
      obtain ⟨f12, rfl⟩ := k12.opQ
      have sm : Sz ((x.2.2 : Int) : Rat) 1 := sz_one (by omega)
      refine G.call0 _ _ (by kernel_rfl) Tryz.call18 (refMul0 (k11.mono l12) k12 (x2.mono (by omega)) (sm.mono (by omega))) ?_
      intro v13 u13 l13 k13
      obtain ⟨f13, rfl⟩ := k13.opQ
      have hla : PH.le u8 u13 := (((l9.trans l10).trans l11).trans l12).trans l13
      have s13 := sz_mul2 x2 sm
      refine G.call0 _ _ (by kernel_rfl) Tryz.call20 (refAdd0 (hf1.mono hla) k13 (hs1.mono (by omega)) (s13.mono (by omega))) ?_
      intro v14 u14 l14 k14
      obtain ⟨f14, rfl⟩ := k14.opQ
      refine G.addr b3 o3 l.length cm i 1 (by kernel_rfl) hlt ?_
      refine G.loadU none b3 (o3 + i * 1) (muV x) (by kernel_rfl) (by kernel_rfl) (e3.mono (hla.trans l14)) ?_
      refine G.call0 _ _ (by kernel_rfl) Tryz.call19 (refReadT x3) ?_
      intro v15 u15 l15 k15
      obtain ⟨f15, rfl⟩ := k15.opQ
      refine G.call0 _ _ (by kernel_rfl) Tryz.call17 (refOf0 (z := x.2.2) (by omega) (by omega)) ?_
      intro v16 u16 l16 k16
      obtain ⟨f16, rfl⟩ := k16.opQ
      refine G.call0 _ _ (by kernel_rfl) Tryz.call18 (refMul0 (k15.mono l16) k16 (x4.mono (by omega)) (sm.mono (by omega))) ?_
      intro v17 u17 l17 k17
      obtain ⟨f17, rfl⟩ := k17.opQ
      have hlb : PH.le u14 u17 := (l15.trans l16).trans l17
      have s17 := sz_mul2 x4 sm
      refine G.call0 _ _ (by kernel_rfl) Tryz.call20 (refAdd0 (hf2.mono ((hla.trans l14).trans hlb)) k17 (hs2.mono (by omega)) (s17.mono (by omega))) ?_
      intro v18 u18 l18 k18
      obtain ⟨f18, rfl⟩ := k18.opQ
      refine G.addr b3 o3 l.length cm i 1 (by kernel_rfl) hlt ?_
      refine G.loadU none b3 (o3 + i * 1) (muV x) (by kernel_rfl) (by kernel_rfl) (e3.mono (((hla.trans l14).trans hlb).trans l18)) ?_
      refine G.add nz x.2.2 (nz + x.2.2) (by kernel_rfl) rfl (by omega) (by omega) ?_
      refine G.add (i : Int) 1 ((i + 1 : Nat) : Int) (by kernel_rfl) (by omega) (by omega) (by omega) ?_
      exact G.back (by kernel_rfl) (hJ (i + 1, nz + x.2.2, (f14, ql + x.1 * ((x.2.2 : Int) : Rat)), (f18, qh + x.2.1 * ((x.2.2 : Int) : Rat))) _ _ _ ⟨by kernel_rfl, by kernel_rfl, by kernel_rfl⟩ (l8.trans (((hla.trans l14).trans hlb).trans l18))
        ⟨by dsimp only; omega, by dsimp only; omega, by dsimp only; omega, by dsimp only; omega, by dsimp only; grind, by dsimp only; grind, (sz_add2 hs1 s13).mono (by dsimp only; omega), (sz_add2 hs2 s17).mono (by dsimp only; omega), k14.mono (hlb.trans l18), k18, rfl⟩ (by dsimp only; omega))
    · obtain rfl : i = l.length := by omega
      refine G.lssF (l.length : Int) (l.length : Int) (by kernel_rfl) (by omega) ?_
      rw [List.drop_of_length_le (Nat.le_refl _)] at hz2 hq1 hq2
      simp only [mulS, lowS, highS] at hz2 hq1 hq2
      have hl8' : PH.le u3 u8 := l4.trans hl8
      refine G.call0 _ _ (by kernel_rfl) Tryz.call27 (refTrace0 (hA.mono hl8') hN.sq (fun r hr q hq => (hTw r hr q hq).sz.mono (by omega)) hS.txt) ?_
      rintro v9 u9 l9 rfl
      refine G.call0 _ _ (by kernel_rfl) Tryz.call19 (refReadT hS.txt) ?_
      intro v10 u10 l10 k10
      obtain ⟨f10, rfl⟩ := k10.opQ
      refine G.eqlT nz (A.length : Int) (by kernel_rfl) (by omega) ?_
      have str : Sz (trL A) 1000 := hS.txt.sz.mono (by omega)
      refine G.call0 _ _ (by kernel_rfl) Tryz.call28 (refSub0 (hf1.mono (l9.trans l10)) k10 (hs1.mono (by omega)) (str.mono (by omega))) ?_
      intro v11 u11 l11 k11
      obtain ⟨f11, rfl⟩ := k11.opQ
      refine G.call0 _ _ (by kernel_rfl) Tryz.call29 (refSign0 k11 (Nat.le_trans (sz_sub2 hs1 str).1 (by omega))) ?_
      rintro v12 u12 l12 rfl
      refine G.leqT (sgn (ql - trL A).num) 0 (by kernel_rfl) (sgnR_le (by grind)) ?_
      refine G.call0 _ _ (by kernel_rfl) Tryz.call28 (refSub0 (hf2.mono (((l9.trans l10).trans l11).trans l12)) (k10.mono (l11.trans l12)) (hs2.mono (by omega)) (str.mono (by omega))) ?_
      intro v13 u13 l13 k13
      obtain ⟨f13, rfl⟩ := k13.opQ
      refine G.call0 _ _ (by kernel_rfl) Tryz.call29 (refSign0 k13 (Nat.le_trans (sz_sub2 hs2 str).1 (by omega))) ?_
      rintro v14 u14 l14 rfl
      refine G.geqT (sgn (qh - trL A).num) 0 (by kernel_rfl) (sgnR_ge (by grind)) ?_
      refine G.call0 _ _ (by kernel_rfl) Tryz.call8 (sane0 (ht.mono ((((((((hl4.trans hl8)).trans l9).trans l10).trans l11).trans l12).trans l13).trans l14))) ?_
      rintro v15 u15 l15 rfl
      refine G.drop PH.mt (by kernel_rfl) (PH.mt_le _) ?_
      exact G.ret (.bool true) (by kernel_rfl) ⟨rfl, rfl⟩
end Go.Proofs.YtldokelpolbnnaaGreatDoor
end
