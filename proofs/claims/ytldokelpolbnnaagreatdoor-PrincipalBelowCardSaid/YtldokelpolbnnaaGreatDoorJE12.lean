/- Joined out of parts of one proof by a program: contracts of the functions that the statement reaches, and the plain facts behind them. -/
import Derived.Test.YtldokelpolbnnaaGreatDoorJE11
set_option linter.unusedVariables false
set_option linter.unusedSimpArgs false
set_option linter.unusedSectionVars false
section
set_option linter.unusedVariables false
set_option linter.unusedSimpArgs false
namespace Go.Proofs.YtldokelpolbnnaaGreatDoor
def m3 (a b c d e f g h i : Rat) : Rat := a * (e * i - f * h) - b * (d * i - f * g) + c * (d * h - e * g)
theorem m3_cr (c0 c1 c2 d0 d1 d2 e0 e1 e2 p0 p1 p2 q0 q1 q2 r0 r1 r2 : Rat) :
  m3 (c0 * p0 + c1 * q0 + c2 * r0) (c0 * p1 + c1 * q1 + c2 * r1) (c0 * p2 + c1 * q2 + c2 * r2) (d0 * p0 + d1 * q0 + d2 * r0) (d0 * p1 + d1 * q1 + d2 * r1) (d0 * p2 + d1 * q2 + d2 * r2) (e0 * p0 + e1 * q0 + e2 * r0) (e0 * p1 + e1 * q1 + e2 * r1) (e0 * p2 + e1 * q2 + e2 * r2)
   = m3 c0 c1 c2 d0 d1 d2 e0 e1 e2 * m3 p0 p1 p2 q0 q1 q2 r0 r1 r2 := by unfold m3; grind
def det4g (a b c d e f g h i j k l m n o p : Rat) : Rat := a * m3 f g h j k l n o p - b * m3 e g h i k l m o p + c * m3 e f h i j l m n p - d * m3 e f g i j k m n o
theorem det4g_sym (x y z w a b c d e f : Rat) : det4g x a b c a y d e b d z f c e f w = det4 x y z w a b c d e f := by unfold det4g m3 det4; grind
theorem d3f_m3 (x y z a b d : Rat) : m3 x a b a y d b d z = d3f x y z a b d := by unfold m3 d3f; grind
theorem det4_cr (c0 c1 c2 d0 d1 d2 e0 e1 e2 f0 f1 f2 p0 p1 p2 p3 q0 q1 q2 q3 r0 r1 r2 r3 : Rat) :
  det4g (c0 * p0 + c1 * q0 + c2 * r0) (c0 * p1 + c1 * q1 + c2 * r1) (c0 * p2 + c1 * q2 + c2 * r2) (c0 * p3 + c1 * q3 + c2 * r3)
   (d0 * p0 + d1 * q0 + d2 * r0) (d0 * p1 + d1 * q1 + d2 * r1) (d0 * p2 + d1 * q2 + d2 * r2) (d0 * p3 + d1 * q3 + d2 * r3)
   (e0 * p0 + e1 * q0 + e2 * r0) (e0 * p1 + e1 * q1 + e2 * r1) (e0 * p2 + e1 * q2 + e2 * r2) (e0 * p3 + e1 * q3 + e2 * r3)
   (f0 * p0 + f1 * q0 + f2 * r0) (f0 * p1 + f1 * q1 + f2 * r1) (f0 * p2 + f1 * q2 + f2 * r2) (f0 * p3 + f1 * q3 + f2 * r3) = 0 := by
 unfold det4g
 rw [m3_cr, m3_cr, m3_cr, m3_cr]
 unfold m3; grind
def e1F (M : Nat → Nat → Rat) : Rat := M 0 0 + M 1 1 + M 2 2 + M 3 3
def e2F (M : Nat → Nat → Rat) : Rat := c2f (M 0 0) (M 1 1) (M 2 2) (M 3 3) (M 0 1) (M 0 2) (M 0 3) (M 1 2) (M 1 3) (M 2 3)
def e3F (M : Nat → Nat → Rat) : Rat := c1f (M 0 0) (M 1 1) (M 2 2) (M 3 3) (M 0 1) (M 0 2) (M 0 3) (M 1 2) (M 1 3) (M 2 3)
def e4F (M : Nat → Nat → Rat) : Rat := det4 (M 0 0) (M 1 1) (M 2 2) (M 3 3) (M 0 1) (M 0 2) (M 0 3) (M 1 2) (M 1 3) (M 2 3)
structure LowR (M C R : Nat → Nat → Rat) : Prop where
 sym : ∀ i j, M i j = M j i
 eq : ∀ i j, i < 4 → j < 4 → M i j = C i 0 * R 0 j + C i 1 * R 1 j + C i 2 * R 2 j
def mi (C : Nat → Nat → Rat) (i j k : Nat) : Rat := m3 (C i 0) (C i 1) (C i 2) (C j 0) (C j 1) (C j 2) (C k 0) (C k 1) (C k 2)
def mj (R : Nat → Nat → Rat) (i j k : Nat) : Rat := m3 (R 0 i) (R 0 j) (R 0 k) (R 1 i) (R 1 j) (R 1 k) (R 2 i) (R 2 j) (R 2 k)
section
variable {M C R : Nat → Nat → Rat} (h : LowR M C R)
include h
theorem LowR.e4 : e4F M = 0 := by
 unfold e4F
 rw [← det4g_sym]
 have e : det4g (M 0 0) (M 0 1) (M 0 2) (M 0 3) (M 1 0) (M 1 1) (M 1 2) (M 1 3) (M 2 0) (M 2 1) (M 2 2) (M 2 3) (M 3 0) (M 3 1) (M 3 2) (M 3 3) = 0 := by
  rw [h.eq 0 0, h.eq 0 1, h.eq 0 2, h.eq 0 3, h.eq 1 0, h.eq 1 1, h.eq 1 2, h.eq 1 3, h.eq 2 0, h.eq 2 1, h.eq 2 2, h.eq 2 3, h.eq 3 0, h.eq 3 1, h.eq 3 2, h.eq 3 3] <;> first | omega | exact det4_cr ..
 rw [h.sym 1 0, h.sym 2 0, h.sym 2 1, h.sym 3 0, h.sym 3 1, h.sym 3 2] at e
 exact e
theorem LowR.minor (i j k : Nat) (hi : i < 4) (hj : j < 4) (hk : k < 4) : d3f (M i i) (M j j) (M k k) (M i j) (M i k) (M j k) = mi C i j k * mj R i j k := by
 rw [← d3f_m3]
 have e : m3 (M i i) (M i j) (M i k) (M j i) (M j j) (M j k) (M k i) (M k j) (M k k) = mi C i j k * mj R i j k := by
  rw [h.eq i i hi hi, h.eq i j hi hj, h.eq i k hi hk, h.eq j i hj hi, h.eq j j hj hj, h.eq j k hj hk, h.eq k i hk hi, h.eq k j hk hj, h.eq k k hk hk]
  exact m3_cr ..
 rw [h.sym j i, h.sym k i, h.sym k j] at e
 exact e
theorem LowR.e3 : e3F M = mi C 0 1 2 * mj R 0 1 2 + mi C 0 1 3 * mj R 0 1 3 + mi C 0 2 3 * mj R 0 2 3 + mi C 1 2 3 * mj R 1 2 3 := by
 rw [← h.minor 0 1 2 (by omega) (by omega) (by omega), ← h.minor 0 1 3 (by omega) (by omega) (by omega), ← h.minor 0 2 3 (by omega) (by omega) (by omega), ← h.minor 1 2 3 (by omega) (by omega) (by omega)]
 unfold e3F c1f d3f; grind
theorem LowR.minor2 (hC : ∀ i, C i 2 = 0) (i j : Nat) (hi : i < 4) (hj : j < 4) : d2f (M i i) (M j j) (M i j) = (C i 0 * C j 1 - C i 1 * C j 0) * (R 0 i * R 1 j - R 0 j * R 1 i) := by
 have e1 := h.eq i i hi hi
 have e2 := h.eq i j hi hj
 have e3 := h.eq j i hj hi
 have e4 := h.eq j j hj hj
 rw [hC] at e1 e2 e3 e4
 have s := h.sym j i
 have : d2f (M i i) (M j j) (M i j) = M i i * M j j - M i j * M j i := by rw [s]; rfl
 rw [this, e1, e2, e3, e4]; grind
theorem LowR.e2 (hC : ∀ i, C i 2 = 0) : e2F M = (C 0 0 * C 1 1 - C 0 1 * C 1 0) * (R 0 0 * R 1 1 - R 0 1 * R 1 0) + (C 0 0 * C 2 1 - C 0 1 * C 2 0) * (R 0 0 * R 1 2 - R 0 2 * R 1 0) + (C 0 0 * C 3 1 - C 0 1 * C 3 0) * (R 0 0 * R 1 3 - R 0 3 * R 1 0)
  + (C 1 0 * C 2 1 - C 1 1 * C 2 0) * (R 0 1 * R 1 2 - R 0 2 * R 1 1) + (C 1 0 * C 3 1 - C 1 1 * C 3 0) * (R 0 1 * R 1 3 - R 0 3 * R 1 1) + (C 2 0 * C 3 1 - C 2 1 * C 3 0) * (R 0 2 * R 1 3 - R 0 3 * R 1 2) := by
 rw [← h.minor2 hC 0 1 (by omega) (by omega), ← h.minor2 hC 0 2 (by omega) (by omega), ← h.minor2 hC 0 3 (by omega) (by omega), ← h.minor2 hC 1 2 (by omega) (by omega), ← h.minor2 hC 1 3 (by omega) (by omega), ← h.minor2 hC 2 3 (by omega) (by omega)]
 unfold e2F c2f d2f; grind
end
theorem mi_zero {C : Nat → Nat → Rat} (hC : ∀ i, C i 2 = 0) (i j k : Nat) : mi C i j k = 0 := by unfold mi m3; rw [hC, hC, hC]; grind
theorem mi_sym {C R S : Nat → Nat → Rat} (h : ∀ i k, i < 4 → k < 3 → C i k = S k 0 * R 0 i + S k 1 * R 1 i + S k 2 * R 2 i) (i j k : Nat) (hi : i < 4) (hj : j < 4) (hk : k < 4) :
  mi C i j k = m3 (S 0 0) (S 0 1) (S 0 2) (S 1 0) (S 1 1) (S 1 2) (S 2 0) (S 2 1) (S 2 2) * mj R i j k := by
 unfold mi mj
 rw [h i 0 hi (by omega), h i 1 hi (by omega), h i 2 hi (by omega), h j 0 hj (by omega), h j 1 hj (by omega), h j 2 hj (by omega), h k 0 hk (by omega), h k 1 hk (by omega), h k 2 hk (by omega)]
 unfold m3; grind
theorem m3_id {S U : Nat → Nat → Rat} (h : ∀ k m, k < 3 → m < 3 → U k 0 * S m 0 + U k 1 * S m 1 + U k 2 * S m 2 = if k = m then 1 else 0) : m3 (S 0 0) (S 0 1) (S 0 2) (S 1 0) (S 1 1) (S 1 2) (S 2 0) (S 2 1) (S 2 2) ≠ 0 := by
 intro h0
 have e := m3_cr (U 0 0) (U 0 1) (U 0 2) (U 1 0) (U 1 1) (U 1 2) (U 2 0) (U 2 1) (U 2 2) (S 0 0) (S 1 0) (S 2 0) (S 0 1) (S 1 1) (S 2 1) (S 0 2) (S 1 2) (S 2 2)
 rw [h 0 0 (by omega) (by omega), h 0 1 (by omega) (by omega), h 0 2 (by omega) (by omega), h 1 0 (by omega) (by omega), h 1 1 (by omega) (by omega), h 1 2 (by omega) (by omega), h 2 0 (by omega) (by omega), h 2 1 (by omega) (by omega), h 2 2 (by omega) (by omega)] at e
 have t : m3 (S 0 0) (S 1 0) (S 2 0) (S 0 1) (S 1 1) (S 2 1) (S 0 2) (S 1 2) (S 2 2) = 0 := by rw [← h0]; unfold m3; grind
 rw [t] at e
 simp [m3] at e
 grind
theorem sq_sum_ne {s a b c d : Rat} (hs : s ≠ 0) (h : a ≠ 0 ∨ b ≠ 0 ∨ c ≠ 0 ∨ d ≠ 0) : s * a * a + s * b * b + s * c * c + s * d * d ≠ 0 := by
 have h1 := sq0 a; have h2 := sq0 b; have h3 := sq0 c; have h4 := sq0 d
 have : 0 < a * a + b * b + c * c + d * d := by
  rcases h with h | h | h | h <;> have := sq_pos h <;> grind
 intro e
 have : s * (a * a + b * b + c * c + d * d) = 0 := by grind
 rcases Rat.mul_eq_zero.1 this with h' | h'
 ·exact hs h'
 ·grind
theorem six_ne {s a b c d e f : Rat} (hs : s ≠ 0) (h : a ≠ 0 ∨ b ≠ 0 ∨ c ≠ 0 ∨ d ≠ 0 ∨ e ≠ 0 ∨ f ≠ 0) : s * a * a + s * b * b + s * c * c + s * d * d + s * e * e + s * f * f ≠ 0 := by
 have h1 := sq0 a; have h2 := sq0 b; have h3 := sq0 c; have h4 := sq0 d; have h5 := sq0 e; have h6 := sq0 f
 have : 0 < a * a + b * b + c * c + d * d + e * e + f * f := by
  rcases h with h | h | h | h | h | h <;> have := sq_pos h <;> grind
 intro e'
 have : s * (a * a + b * b + c * c + d * d + e * e + f * f) = 0 := by grind
 rcases Rat.mul_eq_zero.1 this with h' | h'
 ·exact hs h'
 ·grind
theorem rank3 {M C R S U : Nat → Nat → Rat} (h : LowR M C R) (hS : ∀ i k, i < 4 → k < 3 → C i k = S k 0 * R 0 i + S k 1 * R 1 i + S k 2 * R 2 i) (hU : ∀ k m, k < 3 → m < 3 → U k 0 * S m 0 + U k 1 * S m 1 + U k 2 * S m 2 = if k = m then 1 else 0)
  (hn : mj R 0 1 2 ≠ 0 ∨ mj R 0 1 3 ≠ 0 ∨ mj R 0 2 3 ≠ 0 ∨ mj R 1 2 3 ≠ 0) : e4F M = 0 ∧ e3F M ≠ 0 := by
 refine ⟨h.e4, ?_⟩
 rw [h.e3, mi_sym hS 0 1 2 (by omega) (by omega) (by omega), mi_sym hS 0 1 3 (by omega) (by omega) (by omega), mi_sym hS 0 2 3 (by omega) (by omega) (by omega), mi_sym hS 1 2 3 (by omega) (by omega) (by omega)]
 exact sq_sum_ne (m3_id hU) hn
theorem rank2 {M C R S U : Nat → Nat → Rat} (h : LowR M C R) (hC : ∀ i, C i 2 = 0) (hS : ∀ i k, i < 4 → k < 2 → C i k = S k 0 * R 0 i + S k 1 * R 1 i) (hU : ∀ k m, k < 2 → m < 2 → U k 0 * S m 0 + U k 1 * S m 1 = if k = m then 1 else 0)
  (hn : ∃ i j, i < j ∧ j < 4 ∧ R 0 i * R 1 j - R 0 j * R 1 i ≠ 0) : e4F M = 0 ∧ e3F M = 0 ∧ e2F M ≠ 0 := by
 refine ⟨h.e4, ?_, ?_⟩
 ·rw [h.e3, mi_zero hC, mi_zero hC, mi_zero hC, mi_zero hC]; grind
 ·have hs : S 0 0 * S 1 1 - S 0 1 * S 1 0 ≠ 0 := by
   intro e
   have a1 := hU 0 0 (by omega) (by omega); have a2 := hU 0 1 (by omega) (by omega); have a3 := hU 1 0 (by omega) (by omega); have a4 := hU 1 1 (by omega) (by omega)
   simp at a1 a2 a3 a4
   have : (U 0 0 * U 1 1 - U 0 1 * U 1 0) * (S 0 0 * S 1 1 - S 0 1 * S 1 0) = (U 0 0 * S 0 0 + U 0 1 * S 0 1) * (U 1 0 * S 1 0 + U 1 1 * S 1 1) - (U 0 0 * S 1 0 + U 0 1 * S 1 1) * (U 1 0 * S 0 0 + U 1 1 * S 0 1) := by grind
   rw [a1, a2, a3, a4, e] at this
   grind
  have k : ∀ i j, i < 4 → j < 4 → C i 0 * C j 1 - C i 1 * C j 0 = (S 0 0 * S 1 1 - S 0 1 * S 1 0) * (R 0 i * R 1 j - R 0 j * R 1 i) := fun i j hi hj => by
   rw [hS i 0 hi (by omega), hS i 1 hi (by omega), hS j 0 hj (by omega), hS j 1 hj (by omega)]; grind
  rw [h.e2 hC, k 0 1 (by omega) (by omega), k 0 2 (by omega) (by omega), k 0 3 (by omega) (by omega), k 1 2 (by omega) (by omega), k 1 3 (by omega) (by omega), k 2 3 (by omega) (by omega)]
  generalize S 0 0 * S 1 1 - S 0 1 * S 1 0 = s at hs ⊢
  obtain ⟨i, j, hij, hj, hne⟩ := hn
  have hcase : (i = 0 ∧ j = 1) ∨ (i = 0 ∧ j = 2) ∨ (i = 0 ∧ j = 3) ∨ (i = 1 ∧ j = 2) ∨ (i = 1 ∧ j = 3) ∨ (i = 2 ∧ j = 3) := by omega
  refine six_ne hs ?_
  rcases hcase with ⟨rfl, rfl⟩ | ⟨rfl, rfl⟩ | ⟨rfl, rfl⟩ | ⟨rfl, rfl⟩ | ⟨rfl, rfl⟩ | ⟨rfl, rfl⟩
  ·exact Or.inl hne
  ·exact Or.inr (Or.inl hne)
  ·exact Or.inr (Or.inr (Or.inl hne))
  ·exact Or.inr (Or.inr (Or.inr (Or.inl hne)))
  ·exact Or.inr (Or.inr (Or.inr (Or.inr (Or.inl hne))))
  ·exact Or.inr (Or.inr (Or.inr (Or.inr (Or.inr hne))))
theorem rank1 {M C R : Nat → Nat → Rat} {s u : Rat} (h : LowR M C R) (hC1 : ∀ i, C i 1 = 0) (hC : ∀ i, C i 2 = 0) (hS : ∀ i, i < 4 → C i 0 = s * R 0 i) (hU : u * s = 1) (hn : ∃ i, i < 4 ∧ R 0 i ≠ 0) : e4F M = 0 ∧ e3F M = 0 ∧ e2F M = 0 ∧ e1F M ≠ 0 := by
 refine ⟨h.e4, ?_, ?_, ?_⟩
 ·rw [h.e3, mi_zero hC, mi_zero hC, mi_zero hC, mi_zero hC]; grind
 ·rw [h.e2 hC, hC1, hC1, hC1, hC1]; grind
 ·have hs : s ≠ 0 := by rintro rfl; grind
  unfold e1F
  rw [h.eq 0 0 (by omega) (by omega), h.eq 1 1 (by omega) (by omega), h.eq 2 2 (by omega) (by omega), h.eq 3 3 (by omega) (by omega), hC, hC, hC, hC, hC1, hC1, hC1, hC1, hS 0 (by omega), hS 1 (by omega), hS 2 (by omega), hS 3 (by omega)]
  obtain ⟨i, hi, hne⟩ := hn
  have : R 0 0 ≠ 0 ∨ R 0 1 ≠ 0 ∨ R 0 2 ≠ 0 ∨ R 0 3 ≠ 0 := by
   have : i = 0 ∨ i = 1 ∨ i = 2 ∨ i = 3 := by omega
   rcases this with rfl | rfl | rfl | rfl <;> simp [hne]
  have := sq_sum_ne hs this
  intro e; apply this; rw [← e]; grind
end Go.Proofs.YtldokelpolbnnaaGreatDoor
end
section
set_option linter.unusedVariables false
set_option linter.unusedSimpArgs false
namespace Go.Proofs.YtldokelpolbnnaaGreatDoor
def padM (n : Nat) (A : List (List Rat)) (i j : Nat) : Rat := if i < n ∧ j < n then en A i j else 0
def coefL (n : Nat) (M : Nat → Nat → Rat) : List Rat := [e4F M, -(e3F M), e2F M, -(e1F M), 1].drop (4 - n)
def SymE (n : Nat) (A : List (List Rat)) : Prop := ∀ i j, i < n → j < n → en A i j = en A j i
theorem symE_of {n : Nat} {A : List (List Rat)} (hs : ∀ i j, j < i → i < n → gR (gM A i) j = gR (gM A j) i) : SymE n A := fun i j hi hj => by
 unfold en
 rcases Nat.lt_trichotomy i j with h | h | h
 ·exact (hs j i h hj).symm
 ·rw [h]
 ·exact hs i j h hi
theorem pad_sym {n : Nat} {A : List (List Rat)} (hs : SymE n A) (i j : Nat) : padM n A i j = padM n A j i := by
 unfold padM
 by_cases h : i < n ∧ j < n
 ·rw [if_pos h, if_pos ⟨h.2, h.1⟩]; exact hs i j h.1 h.2
 ·rw [if_neg h, if_neg (fun h' => h ⟨h'.2, h'.1⟩)]
theorem pad_at {n : Nat} {A : List (List Rat)} {i j : Nat} (hi : i < n) (hj : j < n) : padM n A i j = en A i j := by unfold padM; rw [if_pos ⟨hi, hj⟩]
theorem pad_out {n : Nat} {A : List (List Rat)} {i j : Nat} (h : n ≤ i ∨ n ≤ j) : padM n A i j = 0 := by unfold padM; rw [if_neg (by omega)]
theorem char_coef {A : List (List Rat)} {n : Nat} (hA : SqN n A) (hs : SymE n A) (h4 : n ≤ 4) : charL A = coefL n (padM n A) := by
 have nn : n = 0 ∨ n = 1 ∨ n = 2 ∨ n = 3 ∨ n = 4 := by omega
 rcases nn with rfl | rfl | rfl | rfl | rfl
 ·have : A = [] := List.eq_nil_of_length_eq_zero hA.1
  subst this; rfl
 ·obtain ⟨a, rfl⟩ := sq1 hA
  rw [char1]
  simp [coefL, e1F, padM, en, gM, gR]
  grind
 ·obtain ⟨a, b, c, d, rfl⟩ := sq2 hA
  have e1 := hs 1 0 (by omega) (by omega)
  simp [en, gM, gR] at e1
  subst e1
  rw [char2]
  simp [coefL, e1F, e2F, c2f, padM, en, gM, gR]
  grind
 ·obtain ⟨a, b, c, d, e, f, g, h, i, rfl⟩ := sq3 hA
  have e1 := hs 1 0 (by omega) (by omega); have e2 := hs 2 0 (by omega) (by omega); have e3 := hs 2 1 (by omega) (by omega)
  simp [en, gM, gR] at e1 e2 e3
  subst e1 e2 e3
  rw [char3]
  simp [coefL, e1F, e2F, e3F, c2f, c1f, padM, en, gM, gR]
  refine ⟨?_, ?_, ?_⟩ <;> grind
 ·obtain ⟨a, b, c, d, e, f, g, h, i, j, k, l, m, n, o, p, rfl⟩ := sq4 hA
  have e1 := hs 1 0 (by omega) (by omega); have e2 := hs 2 0 (by omega) (by omega); have e3 := hs 2 1 (by omega) (by omega)
  have e4 := hs 3 0 (by omega) (by omega); have e5 := hs 3 1 (by omega) (by omega); have e6 := hs 3 2 (by omega) (by omega)
  simp [en, gM, gR] at e1 e2 e3 e4 e5 e6
  subst e1 e2 e3 e4 e5 e6
  rw [char4]
  simp [coefL, e1F, e2F, e3F, e4F, padM, en, gM, gR]
  grind
theorem neg_ne {q : Rat} (h : q ≠ 0) : ¬ (-q = 0) := by intro e; apply h; grind
theorem zer_coef0 {n : Nat} {M : Nat → Nat → Rat} (h4 : n ≤ 4) (h1 : e1F M = 0) (h2 : e2F M = 0) (h3 : e3F M = 0) (h0 : e4F M = 0) : zer (coefL n M) = n := by
 have nn : n = 0 ∨ n = 1 ∨ n = 2 ∨ n = 3 ∨ n = 4 := by omega
 rcases nn with rfl | rfl | rfl | rfl | rfl <;> simp [coefL, zer, h1, h2, h3, h0]
theorem zer_coef1 {n : Nat} {M : Nat → Nat → Rat} (h4 : n ≤ 4) (hn : 1 ≤ n) (h1 : e1F M ≠ 0) (h2 : e2F M = 0) (h3 : e3F M = 0) (h0 : e4F M = 0) : zer (coefL n M) + 1 = n := by
 have k := neg_ne h1
 have nn : n = 1 ∨ n = 2 ∨ n = 3 ∨ n = 4 := by omega
 rcases nn with rfl | rfl | rfl | rfl <;> simp [coefL, zer, h2, h3, h0, k]
theorem zer_coef2 {n : Nat} {M : Nat → Nat → Rat} (h4 : n ≤ 4) (hn : 2 ≤ n) (h2 : e2F M ≠ 0) (h3 : e3F M = 0) (h0 : e4F M = 0) : zer (coefL n M) + 2 = n := by
 have nn : n = 2 ∨ n = 3 ∨ n = 4 := by omega
 rcases nn with rfl | rfl | rfl <;> simp [coefL, zer, h2, h3, h0]
theorem zer_coef3 {n : Nat} {M : Nat → Nat → Rat} (h4 : n ≤ 4) (hn : 3 ≤ n) (h3 : e3F M ≠ 0) (h0 : e4F M = 0) : zer (coefL n M) + 3 = n := by
 have k := neg_ne h3
 have nn : n = 3 ∨ n = 4 := by omega
 rcases nn with rfl | rfl <;> simp [coefL, zer, h0, k]
theorem zer_coef4 {M : Nat → Nat → Rat} (h0 : e4F M ≠ 0) : zer (coefL 4 M) = 0 := by simp [coefL, zer, h0]
theorem zer_rank {A : List (List Rat)} {n : Nat} (hA : SqN n A) (hs : SymE n A) (h4 : n ≤ 4) : zer (charL A) + (elimGo n 0 [] A 1).1.length = n := by
 have hrec : Rec n n A := ⟨hA.1, fun i hi => by
  have : gM A i ∈ A := by unfold gM; rw [List.getD_eq_getElem?_getD, List.getElem?_eq_getElem (by rw [hA.1]; exact hi)]; exact List.getElem_mem _
  exact hA.2 _ this⟩
 have hE := elim_all hrec
 have hdet := elim_det h4 n 0 [] A 1 (by omega) rfl hrec (fun i j _ h => by omega)
 have hdne := elim_dne n 0 [] A 1 (by decide) (fun _ _ => trivial)
 rw [char_coef hA hs h4]
 generalize (elimGo n 0 [] A 1).1.length = r at *
 generalize (fun l => (elimGo n 0 [] A 1).1.getD l 0) = P at *
 generalize en (elimGo n 0 [] A 1).2.1 = R at *
 generalize (elimGo n 0 [] A 1).2.2 = d at *
 obtain ⟨C, hC⟩ : ∃ C : Nat → Nat → Rat, C = fun i k => if k < r then padM n A i (P k) else 0 := ⟨_, rfl⟩
 obtain ⟨R', hR'⟩ : ∃ R' : Nat → Nat → Rat, R' = fun k j => if k < r ∧ j < n then R k j else 0 := ⟨_, rfl⟩
 obtain ⟨S, hS⟩ : ∃ S : Nat → Nat → Rat, S = fun k l => C (P k) l := ⟨_, rfl⟩
 have hCz : ∀ i k, r ≤ k → C i k = 0 := fun i k h => by rw [hC]; simp; intro h'; omega
 have hRu : ∀ k l, k < r → l < r → R' k (P l) = if k = l then 1 else 0 := fun k l hk hl => by rw [hR']; simp [hk, hE.lt l hl, hE.unit l k hl hk]
 have hM : ∀ i j, padM n A i j = sumN r (fun k => C i k * R' k j) := by
  intro i j
  by_cases h : i < n ∧ j < n
  ·obtain ⟨c, hc⟩ := hE.rows i h.1
   rw [pad_at h.1 h.2, hc j h.2]
   refine sumN_congr r (fun k hk => ?_)
   have e : c k = C i k := by
    have := hc (P k) (hE.lt k hk)
    rw [sumN_congr r (g := fun l => (if l = k then 1 else 0) * c l) (fun l hl => by rw [hE.unit k l hk hl]; grind), sumN_one r k c hk] at this
    rw [← this, hC]; simp only [if_pos hk]; exact (pad_at h.1 (hE.lt k hk)).symm
   rw [e, hR']; simp [hk, h.2]
  ·rw [pad_out (by omega), sumN_zero r]
   intro k hk
   by_cases hi : i < n
   ·rw [hR']; simp [show ¬ j < n by omega]
   ·rw [hC]; simp only [if_pos hk]; rw [pad_out (by omega)]; grind
 have hCS : ∀ i k, k < r → C i k = sumN r (fun l => S k l * R' l i) := fun i k hk => by
  have : C i k = padM n A (P k) i := by rw [hC]; simp only [if_pos hk]; exact pad_sym hs _ _
  rw [this, hM, hS]
 obtain ⟨T, hT⟩ : ∃ T : Nat → Nat → Rat, ∀ k, k < r → ∀ j, j < n → R k j = sumN n fun i => T k i * en A i j :=
  ⟨fun k => if h : k < r then Classical.choose (hE.back k h) else fun _ => 0, fun k hk j hj => by
   have := Classical.choose_spec (hE.back k hk) j hj
   simp only [dif_pos hk]; exact this⟩
 obtain ⟨U, hU⟩ : ∃ U : Nat → Nat → Rat, U = fun k l => sumN n (fun i => T k i * R' l i) := ⟨_, rfl⟩
 have hUS : ∀ k m, k < r → m < r → (if k = m then (1 : Rat) else 0) = sumN r (fun l => U k l * S m l) := by
  intro k m hk hm
  have e1 : (if k = m then (1 : Rat) else 0) = sumN n (fun i => T k i * C i m) := by
   rw [← hE.unit m k hm hk, hT k hk (P m) (hE.lt m hm)]
   refine sumN_congr n (fun i hi => ?_)
   rw [hC]; simp only [if_pos hm]; rw [pad_at hi (hE.lt m hm)]
  have e2 : ∀ (N q : Nat), sumN N (fun i => T k i * sumN q (fun l => S m l * R' l i)) = sumN q (fun l => sumN N (fun i => T k i * R' l i) * S m l) := by
   intro N q
   induction N with
   | zero => simp only [sumN]; rw [sumN_zero q]; intro l _; grind
   | succ N ih =>
    simp only [sumN]
    rw [ih, ← sumN_mul, ← sumN_add]
    exact sumN_congr q (fun l _ => by grind)
  rw [e1, sumN_congr n (fun i _ => by rw [hCS i m hm]), e2, hU]
 have hlow : r ≤ 3 → LowR (padM n A) C R' := fun h3 => ⟨pad_sym hs, fun i j _ _ => by
  rw [hM]
  have rr : r = 0 ∨ r = 1 ∨ r = 2 ∨ r = 3 := by omega
  rcases rr with e | e | e | e <;> rw [e] <;> simp only [sumN]
  ·rw [hCz i 0 (by omega), hCz i 1 (by omega), hCz i 2 (by omega)]; grind
  ·rw [hCz i 1 (by omega), hCz i 2 (by omega)]; grind
  ·rw [hCz i 2 (by omega)]; grind
  ·grind⟩
 have rr : r = 0 ∨ r = 1 ∨ r = 2 ∨ r = 3 ∨ r = 4 := by have := hE.le; omega
 have hrn := hE.le
 rcases rr with e | e | e | e | e
 ·have hz : ∀ i j, padM n A i j = 0 := fun i j => by rw [hM, e]; rfl
  have := zer_coef0 (M := padM n A) h4 (by unfold e1F; simp only [hz]; grind) (by unfold e2F c2f; simp only [hz]; grind) (by unfold e3F c1f; simp only [hz]; grind) (by unfold e4F det4; simp only [hz]; grind)
  omega
 ·have hs1 : ∀ i, i < 4 → C i 0 = S 0 0 * R' 0 i := fun i _ => by rw [hCS i 0 (by omega), e]; simp only [sumN]; grind
  have hu1 : U 0 0 * S 0 0 = 1 := by
   have := hUS 0 0 (by omega) (by omega)
   rw [e] at this; simp only [sumN, if_true] at this; grind
  have hp := hE.lt 0 (by omega)
  obtain ⟨q1, q2, q3, q4'⟩ := rank1 (hlow (by omega)) (fun i => hCz i 1 (by omega)) (fun i => hCz i 2 (by omega)) hs1 hu1 ⟨P 0, by omega, by rw [hRu 0 0 (by omega) (by omega)]; simp⟩
  have := zer_coef1 (M := padM n A) h4 (by omega) q4' q3 q2 q1
  omega
 ·have hs2 : ∀ i k, i < 4 → k < 2 → C i k = S k 0 * R' 0 i + S k 1 * R' 1 i := fun i k _ hk => by rw [hCS i k (by omega), e]; simp only [sumN]; grind
  have hu2 : ∀ k m, k < 2 → m < 2 → U k 0 * S m 0 + U k 1 * S m 1 = if k = m then 1 else 0 := fun k m hk hm => by
   rw [hUS k m (by omega) (by omega), e]; simp only [sumN]; grind
  have p0 := hE.lt 0 (by omega); have p1 := hE.lt 1 (by omega); have pu := hE.up 0 1 (by omega) (by omega)
  obtain ⟨q1, q2, q3⟩ := rank2 (hlow (by omega)) (fun i => hCz i 2 (by omega)) hs2 hu2 ⟨P 0, P 1, pu, by omega, by
   rw [hRu 0 0 (by omega) (by omega), hRu 0 1 (by omega) (by omega), hRu 1 0 (by omega) (by omega), hRu 1 1 (by omega) (by omega)]; simp; grind⟩
  have := zer_coef2 (M := padM n A) h4 (by omega) q3 q2 q1
  omega
 ·have hs3 : ∀ i k, i < 4 → k < 3 → C i k = S k 0 * R' 0 i + S k 1 * R' 1 i + S k 2 * R' 2 i := fun i k _ hk => by rw [hCS i k (by omega), e]; simp only [sumN]; grind
  have hu3 : ∀ k m, k < 3 → m < 3 → U k 0 * S m 0 + U k 1 * S m 1 + U k 2 * S m 2 = if k = m then 1 else 0 := fun k m hk hm => by
   rw [hUS k m (by omega) (by omega), e]; simp only [sumN]; grind
  have p0 := hE.lt 0 (by omega); have p1 := hE.lt 1 (by omega); have p2 := hE.lt 2 (by omega); have pu := hE.up 0 1 (by omega) (by omega); have pv := hE.up 1 2 (by omega) (by omega)
  have hmj : mj R' (P 0) (P 1) (P 2) ≠ 0 := by
   unfold mj
   rw [hRu 0 0 (by omega) (by omega), hRu 0 1 (by omega) (by omega), hRu 0 2 (by omega) (by omega), hRu 1 0 (by omega) (by omega), hRu 1 1 (by omega) (by omega), hRu 1 2 (by omega) (by omega), hRu 2 0 (by omega) (by omega), hRu 2 1 (by omega) (by omega), hRu 2 2 (by omega) (by omega)]
   simp [m3]; grind
  have hn : mj R' 0 1 2 ≠ 0 ∨ mj R' 0 1 3 ≠ 0 ∨ mj R' 0 2 3 ≠ 0 ∨ mj R' 1 2 3 ≠ 0 := by
   have hcase : (P 0 = 0 ∧ P 1 = 1 ∧ P 2 = 2) ∨ (P 0 = 0 ∧ P 1 = 1 ∧ P 2 = 3) ∨ (P 0 = 0 ∧ P 1 = 2 ∧ P 2 = 3) ∨ (P 0 = 1 ∧ P 1 = 2 ∧ P 2 = 3) := by omega
   rcases hcase with ⟨a, b, c⟩ | ⟨a, b, c⟩ | ⟨a, b, c⟩ | ⟨a, b, c⟩ <;> rw [a, b, c] at hmj <;> simp [hmj]
  obtain ⟨q1, q2⟩ := rank3 (hlow (by omega)) hs3 hu3 hn
  have := zer_coef3 (M := padM n A) h4 (by omega) q2 q1
  omega
 ·obtain rfl : n = 4 := by omega
  subst e
  rw [if_neg (by omega)] at hdet
  have : e4F (padM 4 A) ≠ 0 := by
   have e : e4F (padM 4 A) = dtm 4 (en A) := by
    unfold e4F
    rw [← det4g_sym]
    simp only [pad_at (show 0 < 4 by omega) (show 0 < 4 by omega), pad_at (show 0 < 4 by omega) (show 1 < 4 by omega), pad_at (show 0 < 4 by omega) (show 2 < 4 by omega), pad_at (show 0 < 4 by omega) (show 3 < 4 by omega), pad_at (show 1 < 4 by omega) (show 1 < 4 by omega), pad_at (show 1 < 4 by omega) (show 2 < 4 by omega), pad_at (show 1 < 4 by omega) (show 3 < 4 by omega), pad_at (show 2 < 4 by omega) (show 2 < 4 by omega), pad_at (show 2 < 4 by omega) (show 3 < 4 by omega), pad_at (show 3 < 4 by omega) (show 3 < 4 by omega)]
    simp only [dtm]
    rw [hs 1 0 (by omega) (by omega), hs 2 0 (by omega) (by omega), hs 2 1 (by omega) (by omega), hs 3 0 (by omega) (by omega), hs 3 1 (by omega) (by omega), hs 3 2 (by omega) (by omega)]
    unfold det4g m3; grind
   rw [e]
   intro h; apply hdne; rw [← hdet, h]; grind
  rw [zer_coef4 this]
theorem chg_max {s : Int} {q : Rat} {l : List Rat} (h : chg s (q :: l) = l.length + 1) : sg q = -s ∧ chg (-s) l = l.length := by
 rw [chg_cons] at h
 split at h
 ·rename_i e; exact ⟨e, by omega⟩
 ·have := chg_len l s; omega
theorem var_max {q : Rat} {l : List Rat} (h : var (q :: l) = l.length) (hl : l ≠ []) : chg (sg q) l = l.length := by
 rw [var_cons] at h
 split at h
 ·cases l with
  | nil => exact absurd rfl hl
  | cons x l =>
   rw [var_cons] at h
   simp only [List.length_cons] at h
   split at h
   ·have := var_len l; omega
   ·have := chg_len l (sg x); omega
 ·exact h
theorem sg_eq_one {q : Rat} (h : sg q = 1) : 0 < q := by
 rcases sg_cases q with ⟨_, e⟩ | ⟨_, e⟩ | ⟨h', _⟩
 ·rw [e] at h; exact absurd h (by decide)
 ·rw [e] at h; exact absurd h (by decide)
 ·exact h'
theorem sg_eq_neg {q : Rat} (h : sg q = -1) : q < 0 := by
 rcases sg_cases q with ⟨h', _⟩ | ⟨_, e⟩ | ⟨_, e⟩
 ·exact h'
 ·rw [e] at h; exact absurd h (by decide)
 ·rw [e] at h; exact absurd h (by decide)
theorem chg_one {s : Int} (h : chg s [1] = 1) : s = -1 := by
 have := (chg_max (l := []) h).1
 rw [sg_pos (by decide)] at this; omega
theorem varF1 (a : Rat) : var [-a, 1] = 1 ↔ 0 < a := by
 constructor
 ·intro h
  have h1 := var_max (l := [1]) h (by simp)
  have := chg_one h1
  have := sg_eq_neg this; grind
 ·intro h; rw [var_nz _ (by grind)]; simp [chg_cons, sg_neg (show -a < 0 by grind), sg_pos (show (0 : Rat) < 1 by decide), chg]
theorem varF2 (a b : Rat) : var [a, -b, 1] = 2 ↔ 0 < b ∧ 0 < a := by
 constructor
 ·intro h
  have h1 := var_max (l := [-b, 1]) h (by simp)
  obtain ⟨s1, h2⟩ := chg_max (l := [1]) h1
  have e := chg_one h2
  have k1 := sg_eq_one (q := a) (by omega)
  have k2 := sg_eq_neg (q := -b) (by omega)
  exact ⟨by grind, k1⟩
 ·rintro ⟨h1, h2⟩
  exact varN3 h2 (by grind) (by decide)
theorem varF3 (a b c : Rat) : var [-a, b, -c, 1] = 3 ↔ 0 < c ∧ 0 < b ∧ 0 < a := by
 constructor
 ·intro h
  have h1 := var_max (l := [b, -c, 1]) h (by simp)
  obtain ⟨s1, h2⟩ := chg_max (l := [-c, 1]) h1
  obtain ⟨s2, h3⟩ := chg_max (l := [1]) h2
  have e := chg_one h3
  have k1 := sg_eq_neg (q := -a) (by omega)
  have k2 := sg_eq_one (q := b) (by omega)
  have k3 := sg_eq_neg (q := -c) (by omega)
  exact ⟨by grind, k2, by grind⟩
 ·rintro ⟨h1, h2, h3⟩
  exact varN4 (by grind) h2 (by grind) (by decide)
theorem varF4 (a b c d : Rat) : var [a, -b, c, -d, 1] = 4 ↔ 0 < d ∧ 0 < c ∧ 0 < b ∧ 0 < a := by
 constructor
 ·intro h
  have h1 := var_max (l := [-b, c, -d, 1]) h (by simp)
  obtain ⟨s1, h2⟩ := chg_max (l := [c, -d, 1]) h1
  obtain ⟨s2, h3⟩ := chg_max (l := [-d, 1]) h2
  obtain ⟨s3, h4⟩ := chg_max (l := [1]) h3
  have e := chg_one h4
  have k1 := sg_eq_one (q := a) (by omega)
  have k2 := sg_eq_neg (q := -b) (by omega)
  have k3 := sg_eq_one (q := c) (by omega)
  have k4 := sg_eq_neg (q := -d) (by omega)
  exact ⟨by grind, k3, by grind, k1⟩
 ·rintro ⟨h1, h2, h3, h4⟩
  exact varN5 h4 (by grind) h2 (by grind) (by decide)
def leadP (n : Nat) (e : Nat → Nat → Rat) : Prop :=
 (1 ≤ n → 0 < e 0 0) ∧ (2 ≤ n → 0 < d2f (e 0 0) (e 1 1) (e 0 1)) ∧ (3 ≤ n → 0 < d3f (e 0 0) (e 1 1) (e 2 2) (e 0 1) (e 0 2) (e 1 2)) ∧ (4 ≤ n → 0 < det4 (e 0 0) (e 1 1) (e 2 2) (e 3 3) (e 0 1) (e 0 2) (e 0 3) (e 1 2) (e 1 3) (e 2 3))
theorem pos_iff {A : List (List Rat)} {n : Nat} (hA : SqN n A) (hs : SymE n A) (h4 : n ≤ 4) : lessL (charL A) 0 + (equalL (charL A) 0 : Int) = 0 ↔ leadP n (en A) := by
 have hcl : (charL A).length = n + 1 := by rw [charL_length, hA.1]
 have hv : lessL (charL A) 0 + (equalL (charL A) 0 : Int) = 0 ↔ var (charL A) = n := by
  unfold lessL equalL
  rw [shift_same _ (by omega), hcl]; omega
 rw [hv, char_coef hA hs h4]
 have nn : n = 0 ∨ n = 1 ∨ n = 2 ∨ n = 3 ∨ n = 4 := by omega
 rcases nn with rfl | rfl | rfl | rfl | rfl
 ·simp [coefL, var, zer, leadP, chg]
 ·have : coefL 1 (padM 1 A) = [-(en A 0 0), 1] := by simp [coefL, e1F, padM]; grind
  rw [this, varF1]
  simp [leadP]
 ·have : coefL 2 (padM 2 A) = [d2f (en A 0 0) (en A 1 1) (en A 0 1), -(en A 0 0 + en A 1 1), 1] := by simp [coefL, e1F, e2F, c2f, d2f, padM]; grind
  rw [this, varF2, ← minors_iff2]
  simp [leadP]
 ·have : coefL 3 (padM 3 A) = [-(d3f (en A 0 0) (en A 1 1) (en A 2 2) (en A 0 1) (en A 0 2) (en A 1 2)), d2f (en A 0 0) (en A 1 1) (en A 0 1) + d2f (en A 0 0) (en A 2 2) (en A 0 2) + d2f (en A 1 1) (en A 2 2) (en A 1 2), -(en A 0 0 + en A 1 1 + en A 2 2), 1] := by
   simp [coefL, e1F, e2F, e3F, c2f, c1f, d2f, d3f, padM]; grind
  rw [this, varF3, ← minors_iff3]
  simp [leadP]
 ·have : coefL 4 (padM 4 A) = [det4 (en A 0 0) (en A 1 1) (en A 2 2) (en A 3 3) (en A 0 1) (en A 0 2) (en A 0 3) (en A 1 2) (en A 1 3) (en A 2 3), -(c1f (en A 0 0) (en A 1 1) (en A 2 2) (en A 3 3) (en A 0 1) (en A 0 2) (en A 0 3) (en A 1 2) (en A 1 3) (en A 2 3)), c2f (en A 0 0) (en A 1 1) (en A 2 2) (en A 3 3) (en A 0 1) (en A 0 2) (en A 0 3) (en A 1 2) (en A 1 3) (en A 2 3), -(en A 0 0 + en A 1 1 + en A 2 2 + en A 3 3), 1] := by
   simp [coefL, e1F, e2F, e3F, e4F, padM]
  rw [this, varF4, ← minors_iff]
  simp [leadP]
end Go.Proofs.YtldokelpolbnnaaGreatDoor
end
section
set_option linter.unusedVariables false
set_option linter.unusedSimpArgs false
namespace Go.Proofs.YtldokelpolbnnaaGreatDoor
def fsum (L : List (List Rat)) (D : List Rat) (i k : Nat) : Nat → Nat → Rat → Rat
 | 0, _, s => s
 | f + 1, j, s => fsum L D i k f (j + 1) (s - gR (gM L i) j * gR (gM L k) j * gR D j)
def frow (A : List (List Rat)) (D : List Rat) (i : Nat) : Nat → Nat → List (List Rat) → List (List Rat)
 | 0, _, L => L
 | f + 1, k, L => frow A D i f (k + 1) (L.set i ((gM L i).set k (fsum L D i k k 0 (gR (gM A i) k) / gR D k)))
def facGo (A : List (List Rat)) : Nat → Nat → List (List Rat) → List Rat → Nat
 | 0, i, _, _ => i
 | f + 1, i, L, D => if fsum (frow A D i i 0 L) D i i i 0 (gR (gM A i) i) ≤ 0 then i else facGo A f (i + 1) (frow A D i i 0 L) (D ++ [fsum (frow A D i i 0 L) D i i i 0 (gR (gM A i) i)])
def idL (n : Nat) : List (List Rat) := (List.range n).map fun i => (List.range n).map fun k => if k = i then 1 else 0
def facN (A : List (List Rat)) : Nat := facGo A A.length 0 (idL A.length) []
theorem nle_pos {q : Rat} : ¬ (q ≤ 0) ↔ 0 < q := by grind
theorem pos_mul_iff {a b c : Rat} (ha : 0 < a) (h : a * b = c) : 0 < b ↔ 0 < c := by
 constructor
 ·intro hb; rw [← h]; exact Rat.mul_pos ha hb
 ·intro hc; exact pos_of_mul ha (by rw [h]; exact hc)
def piv1 (x y a : Rat) : Rat := y - a / x * (a / x) * x
def piv2 (x y z a b d : Rat) : Rat := z - b / x * (b / x) * x - (d - b / x * (a / x) * x) / piv1 x y a * ((d - b / x * (a / x) * x) / piv1 x y a) * piv1 x y a
def piv3 (x y z w a b c d e f : Rat) : Rat :=
 w - c / x * (c / x) * x - (e - c / x * (a / x) * x) / piv1 x y a * ((e - c / x * (a / x) * x) / piv1 x y a) * piv1 x y a
  - (f - c / x * (b / x) * x - (e - c / x * (a / x) * x) / piv1 x y a * ((d - b / x * (a / x) * x) / piv1 x y a) * piv1 x y a) / piv2 x y z a b d * ((f - c / x * (b / x) * x - (e - c / x * (a / x) * x) / piv1 x y a * ((d - b / x * (a / x) * x) / piv1 x y a) * piv1 x y a) / piv2 x y z a b d) * piv2 x y z a b d
theorem can_l {k a b : Rat} (hk : k ≠ 0) (h : k * a = k * b) : a = b := by
 have : k * (a - b) = 0 := by grind
 rcases Rat.mul_eq_zero.1 this with h' | h'
 ·exact absurd h' hk
 ·grind
theorem piv1_eq {x y a : Rat} (hx : x ≠ 0) : x * piv1 x y a = d2f x y a := by unfold piv1 d2f; grind
theorem sq_div {p s : Rat} (hs : s ≠ 0) : p / s * (p / s) * s * s = p * p := by grind
theorem mul_div' {p q s : Rat} (hs : s ≠ 0) : p / s * (q / s) * s * s = p * q := by grind
theorem piv2_eq {x y z a b d : Rat} (hx : x ≠ 0) (h1 : piv1 x y a ≠ 0) : d2f x y a * piv2 x y z a b d = d3f x y z a b d := by
 have k1 := piv1_eq (y := y) (a := a) hx
 have k2 : x * (d - b / x * (a / x) * x) = x * d - a * b := by grind
 have k3 := sq_div (p := d - b / x * (a / x) * x) h1
 have k4 : x * (b / x * (b / x) * x) = b * b := by grind
 unfold piv2
 generalize piv1 x y a = s at *
 generalize d - b / x * (a / x) * x = p at *
 generalize b / x * (b / x) * x = t at *
 generalize p / s * (p / s) * s = r at *
 have : x * (d2f x y a * (z - t - r)) = x * d3f x y z a b d := by
  have e1 : x * (d2f x y a * (z - t - r)) = d2f x y a * (x * z) - d2f x y a * (x * t) - x * x * (r * s) := by rw [← k1]; grind
  rw [e1, k4, k3]
  have e2 : x * x * (p * p) = (x * p) * (x * p) := by grind
  rw [e2, k2]; unfold d2f d3f; grind
 exact can_l hx this
theorem piv3_eq {x y z w a b c d e f : Rat} (hx : x ≠ 0) (h1 : piv1 x y a ≠ 0) (h2 : piv2 x y z a b d ≠ 0) : d3f x y z a b d * piv3 x y z w a b c d e f = det4 x y z w a b c d e f := by
 have k1 := piv1_eq (y := y) (a := a) hx
 have k2 := piv2_eq (z := z) (b := b) (d := d) hx h1
 have p1 : x * (d - b / x * (a / x) * x) = x * d - a * b := by grind
 have p2 : x * (e - c / x * (a / x) * x) = x * e - a * c := by grind
 have p3 : x * (f - c / x * (b / x) * x) = x * f - b * c := by grind
 have p4 : x * (w - c / x * (c / x) * x) = x * w - c * c := by grind
 unfold piv3
 generalize piv2 x y z a b d = s2 at *
 generalize piv1 x y a = s1 at *
 generalize d - b / x * (a / x) * x = p at *
 generalize e - c / x * (a / x) * x = q at *
 generalize w - c / x * (c / x) * x = r at *
 generalize f - c / x * (b / x) * x = t at *
 have m1 := mul_div' (p := q) (q := p) h1
 have m2 := sq_div (p := q) h1
 generalize q / s1 * (p / s1) * s1 = g1 at *
 generalize q / s1 * (q / s1) * s1 = g2 at *
 have m3 := sq_div (p := t - g1) h2
 generalize (t - g1) / s2 * ((t - g1) / s2) * s2 = g3 at *
 have n1 : d2f x y a * (x * g1) = (x * e - a * c) * (x * d - a * b) := by rw [← k1, ← p1, ← p2]; grind
 have n2 : d2f x y a * (x * g2) = (x * e - a * c) * (x * e - a * c) := by rw [← k1, ← p2]; grind
 have n3 : d2f x y a * (x * (t - g1)) = d2f x y a * (x * f - b * c) - (x * e - a * c) * (x * d - a * b) := by rw [← n1, ← p3]; grind
 have hd : d2f x y a ≠ 0 := by rw [← k1]; intro h; rcases Rat.mul_eq_zero.1 h with h | h; exact hx h; exact h1 h
 generalize hD : d2f x y a = D at *
 have n4 : x * x * (D * D) * (d3f x y z a b d * g3) = D * (D * (x * (t - g1)) * (x * (t - g1)) * D) := by rw [← k2]; grind
 have fin : x * x * (D * D) * (d3f x y z a b d * (r - g2 - g3)) = x * x * (D * D) * det4 x y z w a b c d e f := by
  have e1 : x * x * (D * D) * (d3f x y z a b d * (r - g2 - g3)) = d3f x y z a b d * (x * D) * (D * (x * r) - D * (x * g2)) - x * x * (D * D) * (d3f x y z a b d * g3) := by grind
  rw [e1, n4, p4, n2]
  have e2 : D * (D * (x * (t - g1)) * (x * (t - g1)) * D) = D * ((D * (x * (t - g1))) * (D * (x * (t - g1)))) := by grind
  rw [e2, n3, ← hD]
  unfold d2f d3f det4; grind
 have hne : x * x * (D * D) ≠ 0 := by
  intro h
  rcases Rat.mul_eq_zero.1 h with h | h <;> rcases Rat.mul_eq_zero.1 h with h | h
  ·exact hx h
  ·exact hx h
  ·exact hd h
  ·exact hd h
 exact can_l hne fin
theorem fac_iff {A : List (List Rat)} {n : Nat} (hA : SqN n A) (hs : SymE n A) (h4 : n ≤ 4) : facN A = n ↔ leadP n (en A) := by
 have nn : n = 0 ∨ n = 1 ∨ n = 2 ∨ n = 3 ∨ n = 4 := by omega
 rcases nn with rfl | rfl | rfl | rfl | rfl
 ·have : A = [] := List.eq_nil_of_length_eq_zero hA.1
  subst this; simp [facN, facGo, leadP]
 ·obtain ⟨x, rfl⟩ := sq1 hA
  have e : facN [[x]] = if x ≤ 0 then 0 else 1 := by simp [facN, facGo, frow, fsum, gR, gM, idL, List.range_succ]
  rw [e]
  simp [leadP, en, gM, gR]
  exact nle_pos
 ·obtain ⟨x, a, a', y, rfl⟩ := sq2 hA
  have e1 := hs 1 0 (by omega) (by omega)
  simp [en, gM, gR] at e1
  subst e1
  have e : facN [[x, a'], [a', y]] = if x ≤ 0 then 0 else if piv1 x y a' ≤ 0 then 1 else 2 := by simp [facN, facGo, frow, fsum, gR, gM, idL, List.range_succ, piv1]; rfl
  rw [e]
  have l : leadP 2 (en [[x, a'], [a', y]]) ↔ 0 < x ∧ 0 < d2f x y a' := by simp [leadP, en, gM, gR]
  rw [l]
  by_cases h : x ≤ 0
  ·rw [if_pos h]; constructor
   ·intro h; omega
   ·rintro ⟨h', _⟩; grind
  ·rw [if_neg h]
   have hx := nle_pos.1 h
   have k := pos_mul_iff hx (piv1_eq (x := x) (y := y) (a := a') (by grind))
   by_cases h1 : piv1 x y a' ≤ 0
   ·rw [if_pos h1]; constructor
    ·intro h; omega
    ·rintro ⟨_, h'⟩; have := k.2 h'; grind
   ·rw [if_neg h1]; exact ⟨fun _ => ⟨hx, k.1 (nle_pos.1 h1)⟩, fun _ => rfl⟩
 ·obtain ⟨x, a0, b0, a, y, d0, b, d, z, rfl⟩ := sq3 hA
  have e1 := hs 0 1 (by omega) (by omega); have e2 := hs 0 2 (by omega) (by omega); have e3 := hs 1 2 (by omega) (by omega)
  simp [en, gM, gR] at e1 e2 e3
  rw [e1, e2, e3]
  have e : facN [[x, a, b], [a, y, d], [b, d, z]] = if x ≤ 0 then 0 else if piv1 x y a ≤ 0 then 1 else if piv2 x y z a b d ≤ 0 then 2 else 3 := by simp [facN, facGo, frow, fsum, gR, gM, idL, List.range_succ, piv1, piv2]; rfl
  rw [e]
  have l : leadP 3 (en [[x, a, b], [a, y, d], [b, d, z]]) ↔ 0 < x ∧ 0 < d2f x y a ∧ 0 < d3f x y z a b d := by simp [leadP, en, gM, gR]
  rw [l]
  by_cases h : x ≤ 0
  ·rw [if_pos h]; constructor
   ·intro h; omega
   ·rintro ⟨h', _⟩; grind
  ·rw [if_neg h]
   have hx := nle_pos.1 h
   have hx0 : x ≠ 0 := by grind
   have k := pos_mul_iff hx (piv1_eq (x := x) (y := y) (a := a) hx0)
   by_cases h1 : piv1 x y a ≤ 0
   ·rw [if_pos h1]; constructor
    ·intro h; omega
    ·rintro ⟨_, h', _⟩; have := k.2 h'; grind
   ·rw [if_neg h1]
    have h1' := nle_pos.1 h1
    have k2 := pos_mul_iff (k.1 h1') (piv2_eq (x := x) (y := y) (z := z) (a := a) (b := b) (d := d) hx0 (by grind))
    by_cases h2 : piv2 x y z a b d ≤ 0
    ·rw [if_pos h2]; constructor
     ·intro h; omega
     ·rintro ⟨_, _, h'⟩; have := k2.2 h'; grind
    ·rw [if_neg h2]; exact ⟨fun _ => ⟨hx, k.1 h1', k2.1 (nle_pos.1 h2)⟩, fun _ => rfl⟩
 ·obtain ⟨x, a0, b0, c0, a, y, d0, e0, b, d, z, f0, c, e, f, w, rfl⟩ := sq4 hA
  have e1 := hs 0 1 (by omega) (by omega); have e2 := hs 0 2 (by omega) (by omega); have e3 := hs 0 3 (by omega) (by omega)
  have e4 := hs 1 2 (by omega) (by omega); have e5 := hs 1 3 (by omega) (by omega); have e6 := hs 2 3 (by omega) (by omega)
  simp [en, gM, gR] at e1 e2 e3 e4 e5 e6
  rw [e1, e2, e3, e4, e5, e6]
  have ee : facN [[x, a, b, c], [a, y, d, e], [b, d, z, f], [c, e, f, w]] = if x ≤ 0 then 0 else if piv1 x y a ≤ 0 then 1 else if piv2 x y z a b d ≤ 0 then 2 else if piv3 x y z w a b c d e f ≤ 0 then 3 else 4 := by simp [facN, facGo, frow, fsum, gR, gM, idL, List.range_succ, piv1, piv2, piv3]; rfl
  rw [ee]
  have l : leadP 4 (en [[x, a, b, c], [a, y, d, e], [b, d, z, f], [c, e, f, w]]) ↔ 0 < x ∧ 0 < d2f x y a ∧ 0 < d3f x y z a b d ∧ 0 < det4 x y z w a b c d e f := by simp [leadP, en, gM, gR]
  rw [l]
  by_cases h : x ≤ 0
  ·rw [if_pos h]; constructor
   ·intro h; omega
   ·rintro ⟨h', _⟩; grind
  ·rw [if_neg h]
   have hx := nle_pos.1 h
   have hx0 : x ≠ 0 := by grind
   have k := pos_mul_iff hx (piv1_eq (x := x) (y := y) (a := a) hx0)
   by_cases h1 : piv1 x y a ≤ 0
   ·rw [if_pos h1]; constructor
    ·intro h; omega
    ·rintro ⟨_, h', _⟩; have := k.2 h'; grind
   ·rw [if_neg h1]
    have h1' := nle_pos.1 h1
    have k2 := pos_mul_iff (k.1 h1') (piv2_eq (x := x) (y := y) (z := z) (a := a) (b := b) (d := d) hx0 (by grind))
    by_cases h2 : piv2 x y z a b d ≤ 0
    ·rw [if_pos h2]; constructor
     ·intro h; omega
     ·rintro ⟨_, _, h', _⟩; have := k2.2 h'; grind
    ·rw [if_neg h2]
     have h2' := nle_pos.1 h2
     have k3 := pos_mul_iff (k2.1 h2') (piv3_eq (x := x) (y := y) (z := z) (w := w) (a := a) (b := b) (c := c) (d := d) (e := e) (f := f) hx0 (by grind) (by grind))
     by_cases h3 : piv3 x y z w a b c d e f ≤ 0
     ·rw [if_pos h3]; constructor
      ·intro h; omega
      ·rintro ⟨_, _, _, h'⟩; have := k3.2 h'; grind
     ·rw [if_neg h3]; exact ⟨fun _ => ⟨hx, k.1 h1', k2.1 h2', k3.1 (nle_pos.1 h3)⟩, fun _ => rfl⟩
end Go.Proofs.YtldokelpolbnnaaGreatDoor
end
section
set_option linter.unusedSectionVars false
set_option linter.unusedVariables false
namespace Go.Proofs.YtldokelpolbnnaaGreatDoor
open Go.RowKit
theorem sq_rec {A : List (List Rat)} (hs : Sq A) : Rec A.length A.length A := ⟨rfl, fun i hi => by rw [gM_at hi]; exact hs.len hi⟩
theorem szM_tw {A : List (List Rat)} (hs : Sq A) (hT : ∀ r ∈ A, ∀ q ∈ r, Tw q) : SzM A 12 := szM_of (sq_rec hs) (fun i j hi hj => by
 have hj' : j < A[i].length := by rw [hs.len hi]; exact hj
 rw [gM_at hi, gR_at hj']
 exact (hT _ (List.getElem_mem hi) _ (List.getElem_mem hj')).sz)
theorem es12 {n : Nat} (h : n ≤ 4) : es 12 n ≤ 1000000000 := Nat.le_trans (es_le 12 h) (by decide)
end Go.Proofs.YtldokelpolbnnaaGreatDoor
end
section
set_option linter.unusedSectionVars false
set_option linter.unusedVariables false
namespace Go.Proofs.YtldokelpolbnnaaGreatDoor
open Go.RowKit
theorem refSymm0 {u : PH} {v : Value} {A : List (List Rat)} (h : MatP u v (matT A)) (hs : Sq A) (hy : SymM A) : Fn0 Tryz.prog 113 [v] u fun v' _ => v' = .bool true := by
 obtain ⟨a, c, rfl⟩ := h.opn
 rw [matT_length] at h ⊢
 have hle := hs.le
 refine Fn0.of Tryz.func113 (by kernel_rfl) (by kernel_rfl) ?_
 refine G.call0 _ _ (by kernel_rfl) Tryz.call67 (refShape0 h hs) ?_
 rintro v1 u1 l1 rfl
 refine G.neqF 0 0 (by kernel_rfl) (by omega) ?_
 refine G.neqF (A.length : Int) (A.length : Int) (by kernel_rfl) (by omega) ?_
 refine G.loop (ι := Nat) (fun i => [(0, .v (.slice a A.length c)), (22, .v (.int .i64 (A.length : Int))), (23, .v (.int .i64 (i : Int)))]) (fun _ => [])
  (fun i u' m' => i ≤ A.length ∧ m' = PH.mt) (fun i => A.length - i) 0 (by kernel_rfl) (fun _ => by kernel_rfl) ⟨by kernel_rfl, by kernel_rfl, by kernel_rfl⟩ ⟨by omega, rfl⟩ ?_
 rintro J i hJ u2 m2 l2 ⟨hi, rfl⟩
 by_cases hlt : i < A.length
 ·refine G.lssT (i : Int) (A.length : Int) (by kernel_rfl) (by omega) ?_
  have hM2 := h.mono (l1.trans l2)
  have hki0 : 0 < A[i].length := by rw [hs.len hlt]; omega
  obtain ⟨b1, o1, b2, o2, c2, rfl, e1, e2⟩ := hM2.cell hlt hki0
  refine G.addr b1 o1 A.length c i 1 (by kernel_rfl) (by omega) ?_
  refine G.loadU none b1 (o1 + i * 1) _ (by kernel_rfl) (by kernel_rfl) e1 ?_
  rw [hs.len hlt] at e1 ⊢
  refine G.loop (ι := Nat) (fun k => [(0, .v (.slice (some ⟨b1, o1, none⟩) A.length c)), (22, .v (.int .i64 (A.length : Int))), (23, .v (.int .i64 (i : Int))), (6, .v (.int .i64 (i : Int))), (30, .v (.int .i64 (A.length : Int))), (31, .v (.int .i64 (k : Int)))]) (fun _ => [])
   (fun k u' m' => k ≤ A.length ∧ m' = PH.mt) (fun k => A.length - k) 0 (by kernel_rfl) (fun _ => by kernel_rfl) ⟨by kernel_rfl, by kernel_rfl, by kernel_rfl⟩ ⟨by omega, rfl⟩ ?_
  rintro J2 k hJ2 u3 m3 l3 ⟨hk, rfl⟩
  by_cases hkl : k < A.length
  ·refine G.lssT (k : Int) (A.length : Int) (by kernel_rfl) (by omega) ?_
   have hki : k < A[i].length := by rw [hs.len hlt]; omega
   have hik : i < A[k].length := by rw [hs.len hkl]; omega
   have hM := h.mono (l1.trans (l2.trans l3))
   obtain ⟨b1', o1', b2', o2', c2', e0, e1', e2'⟩ := hM.cell hlt hki
   cases e0
   refine G.addr b1 o1 A.length c i 1 (by kernel_rfl) (by omega) ?_
   refine G.loadU none b1 (o1 + i * 1) _ (by kernel_rfl) (by kernel_rfl) e1' ?_
   refine G.addr b2' o2' A[i].length c2' k 1 (by kernel_rfl) hki ?_
   refine G.loadU none b2' (o2' + k * 1) _ (by kernel_rfl) (by kernel_rfl) e2' ?_
   obtain ⟨b3, o3, b4, o4, c4, e0, e3, e4⟩ := hM.cell hkl hik
   cases e0
   refine G.addr b1 o1 A.length c k 1 (by kernel_rfl) (by omega) ?_
   refine G.loadU none b1 (o1 + k * 1) _ (by kernel_rfl) (by kernel_rfl) e3 ?_
   refine G.addr b4 o4 A[k].length c4 i 1 (by kernel_rfl) hik ?_
   refine G.loadU none b4 (o4 + i * 1) _ (by kernel_rfl) (by kernel_rfl) e4 ?_
   refine G.neSF (ratT A[i][k]) (ratT A[k][i]) (by kernel_rfl) (by rw [hy i k hlt hkl hki hik]) ?_
   refine G.add (k : Int) 1 ((k + 1 : Nat) : Int) (by kernel_rfl) (by omega) (by omega) (by omega) ?_
   exact G.back (by kernel_rfl) (hJ2 (k + 1) _ _ _ ⟨by kernel_rfl, by kernel_rfl, by kernel_rfl⟩ l3 ⟨by omega, rfl⟩ (by omega))
  ·refine G.lssF (k : Int) (A.length : Int) (by kernel_rfl) (by omega) ?_
   refine G.add (i : Int) 1 ((i + 1 : Nat) : Int) (by kernel_rfl) (by omega) (by omega) (by omega) ?_
   exact G.back (by kernel_rfl) (hJ (i + 1) _ _ _ ⟨by kernel_rfl, by kernel_rfl, by kernel_rfl⟩ (l2.trans l3) ⟨by omega, rfl⟩ (by omega))
 ·refine G.lssF (i : Int) (A.length : Int) (by kernel_rfl) (by omega) ?_
  exact G.ret (.bool true) (by kernel_rfl) ⟨rfl, rfl⟩
theorem refBefore0 {u : PH} {v : Value} {A : List (List Rat)} (h : MatP u v (matT A)) (hs : Sq A) (hy : SymM A) (hT : ∀ r ∈ A, ∀ q ∈ r, Tw q) : Fn0 Tryz.prog 69 [v] u fun v' _ => v' = .int .i64 0 := by
 obtain ⟨a, c, rfl⟩ := h.opn
 rw [matT_length] at h ⊢
 refine Fn0.of Tryz.func69 (by kernel_rfl) (by kernel_rfl) ?_
 refine G.call0 _ _ (by kernel_rfl) Tryz.call67 (refShape0 h hs) ?_
 rintro v1 u1 l1 rfl
 refine G.neqF 0 0 (by kernel_rfl) (by omega) ?_
 refine G.call0 _ _ (by kernel_rfl) Tryz.call113 (refSymm0 (h.mono l1) hs hy) ?_
 rintro v2 u2 l2 rfl
 refine G.call0 _ _ (by kernel_rfl) Tryz.call72 (refHeavy0 (n := A.length) (h.mono (l1.trans l2)) hs hT hs.le) ?_
 rintro v3 u3 l3 rfl
 exact G.ret (.int .i64 0) (by kernel_rfl) ⟨rfl, rfl⟩
def fR (b : Nat) : Nat → Nat
 | 0 => b
 | k + 1 => 8 * fR b k + 2
def fB : Nat → Nat
 | 0 => 1
 | i + 1 => 10 * fR (fB i) i + 3
theorem fR_small {i k : Nat} (hi : i ≤ 3) (hk : k ≤ i) : fR (fB i) k ≤ 400000000 ∧ 1 ≤ fR (fB i) k := by
 have : (i = 0 ∨ i = 1 ∨ i = 2 ∨ i = 3) ∧ (k = 0 ∨ k = 1 ∨ k = 2 ∨ k = 3) := by omega
 rcases this with ⟨rfl | rfl | rfl | rfl, rfl | rfl | rfl | rfl⟩ <;> first | (exfalso; omega) | decide
theorem fR_up (b k : Nat) : fR b k ≤ fR b (k + 1) := by simp only [fR]; omega
section
variable {x y : Arr} {rows : List (Value × List Value)} {rest : List Arr}
theorem getL {i : Nat} {r : Value × List Value} (h : rows[i]? = some r) : (x :: y :: (rows.map qRow ++ rest))[i + 2]? = some (qRow r) := by
 obtain ⟨h1, h2⟩ := List.getElem?_eq_some_iff.1 h
 simp only [List.getElem?_cons_succ]
 rw [List.getElem?_append_left (by simpa using h1), List.getElem?_map, h]; rfl
theorem setL {i : Nat} {r : Value × List Value} (h : i < rows.length) : (x :: y :: (rows.map qRow ++ rest)).set (i + 2) (qRow r) = x :: y :: ((rows.set i r).map qRow ++ rest) := by
 simp only [List.set_cons_succ]
 rw [List.set_append_left _ _ (by simpa using h), List.map_set]
theorem getA {k : Nat} {z : Arr} (h : rest[k]? = some z) : (x :: y :: (rows.map qRow ++ rest))[rows.length + k + 2]? = some z := by
 simp only [List.getElem?_cons_succ]
 rw [List.getElem?_append_right (by simp), List.length_map, Nat.add_sub_cancel_left, h]
end
theorem rowL {u m : PH} {y : Arr} {rest : List Arr} {g n c w i : Nat} {rows : List (Value × List Value)} {X : List (List Rat)} (hbag : Bag m (oQ (.slice (some ⟨g, 0, none⟩) n c) rows :: y :: (rows.map qRow ++ rest))) (hQ : QAt u rows X) (hX : Rec n w X) (hi : i < n) (hw : 0 < w) :
  ∃ gi ci ei, rows[i]? = some (.slice (some ⟨gi, 0, none⟩) w ci, ei) ∧ ei.length = w ∧ AtP QP u ei (gM X i) ∧ ElP m g (0 + i * 1) (.slice (some ⟨gi, 0, none⟩) w ci) ∧ ∀ j, j < w → ∃ f, ei[j]? = some (qv f) ∧ QP u (qv f) (gR (gM X i) j) ∧ ElP m gi (0 + j * 4) (qv f) := by
 have hrl : rows.length = n := by rw [hQ.1, hX.1]
 have hri : rows[i]? = some rows[i] := List.getElem?_eq_getElem (by omega)
 have hAt := hQ.2 i _ hri
 obtain ⟨⟨vi, ei⟩, he⟩ : ∃ x, rows[i] = x := ⟨_, rfl⟩
 rw [he] at hri hAt
 simp only at hAt
 have hel : ei.length = w := by rw [hAt.1, hX.2 i hi]
 obtain ⟨gi, ci, e⟩ := hbag.ptr (i + 2) (getL hri) (by intro e; simp only [qRow] at e; rw [e] at hel; simp at hel; omega)
 simp only [qRow] at e
 rw [hel] at e
 subst e
 refine ⟨gi, ci, ei, hri, hel, hAt, hbag.el 0 (x := oQ _ rows) rfl rfl (by show (rows.map (·.1))[i]? = _; rw [List.getElem?_map, hri]; rfl), fun j hj => ?_⟩
 have hjl : j < (gM X i).length := by rw [hX.2 i hi]; exact hj
 obtain ⟨e, e1, e2⟩ := hAt.at hjl
 obtain ⟨f, rfl⟩ := e2.opQ
 rw [← gR_at hjl] at e2
 exact ⟨f, e1, e2, hbag.el (i + 2) (x := qRow _) (getL hri) rfl e1⟩
theorem entA {u m : PH} {x y : Arr} {g n c i j : Nat} {rows rowsA : List (Value × List Value)} {A : List (List Rat)} (hbag : Bag m (x :: y :: (rows.map qRow ++ (oQ (.slice (some ⟨g, 0, none⟩) n c) rowsA :: rowsA.map qRow)))) (hQ : QAt u rowsA A) (hA : Rec n n A) (hi : i < n) (hj : j < n) :
  ∃ gi ci f, ElP m g (0 + i * 1) (.slice (some ⟨gi, 0, none⟩) n ci) ∧ QP u (qv f) (gR (gM A i) j) ∧ ElP m gi (0 + j * 4) (qv f) := by
 have hrl : rowsA.length = n := by rw [hQ.1, hA.1]
 have hri : rowsA[i]? = some rowsA[i] := List.getElem?_eq_getElem (by omega)
 have hAt := hQ.2 i _ hri
 obtain ⟨⟨vi, ei⟩, he⟩ : ∃ x, rowsA[i] = x := ⟨_, rfl⟩
 rw [he] at hri hAt
 simp only at hAt
 have hel : ei.length = n := by rw [hAt.1, hA.2 i hi]
 have hgi : (x :: y :: (rows.map qRow ++ (oQ (.slice (some ⟨g, 0, none⟩) n c) rowsA :: rowsA.map qRow)))[rows.length + (i + 1) + 2]? = some (qRow (vi, ei)) := getA (by rw [List.getElem?_cons_succ, List.getElem?_map, hri]; rfl)
 obtain ⟨gi, ci, e⟩ := hbag.ptr _ hgi (by intro e; simp only [qRow] at e; rw [e] at hel; simp at hel; omega)
 simp only [qRow] at e
 rw [hel] at e
 subst e
 have hjl : j < (gM A i).length := by rw [hA.2 i hi]; exact hj
 obtain ⟨e, e1, e2⟩ := hAt.at hjl
 obtain ⟨f, rfl⟩ := e2.opQ
 rw [← gR_at hjl] at e2
 exact ⟨gi, ci, f, hbag.el _ (x := oQ _ rowsA) (getA (k := 0) rfl) rfl (by show (rowsA.map (·.1))[i]? = _; rw [List.getElem?_map, hri]; rfl), e2, hbag.el _ (x := qRow _) hgi rfl e1⟩
def DAt (u : PH) (es : List Value) (D : List Rat) (B : Nat) : Prop := ∀ j, j < D.length → ∃ f, es[j]? = some (qv f) ∧ QP u (qv f) (gR D j) ∧ Sz (gR D j) B ∧ 0 < gR D j
theorem DAt.mono {u u' : PH} {es : List Value} {D : List Rat} {B B' : Nat} (h : DAt u es D B) (hl : PH.le u u') (hB : B ≤ B') : DAt u' es D B' := fun j hj => by
 obtain ⟨f, h1, h2, h3, h4⟩ := h j hj
 exact ⟨f, h1, h2.mono hl, h3.mono hB, h4⟩
theorem gM_idL {n i : Nat} (hi : i < n) : gM (idL n) i = (List.range n).map fun k => if k = i then 1 else 0 := by
 unfold idL gM
 rw [List.getD_eq_getElem?_getD, List.getElem?_map, List.getElem?_range hi]; rfl
theorem rec_idL (n : Nat) : Rec n n (idL n) := ⟨by simp [idL], fun i hi => by rw [gM_idL hi]; simp⟩
theorem szM_idL (n : Nat) : SzM (idL n) 1 := szM_of (rec_idL n) fun i j hi hj => by
 rw [gM_idL hi, gR_rng _ hj]
 split
 ·exact sz_one (z := 1) (by decide)
 ·exact sz_one (z := 0) (by decide)
theorem Bag.nilsQ {l : List Arr} {m : PH} (h : Bag m l) : ∀ n, Bag m ((List.replicate n nilRow).map qRow ++ l)
 | 0 => h
 | n + 1 => ⟨m, ArrAt.nil _ _ _, Bag.nilsQ h n⟩
end Go.Proofs.YtldokelpolbnnaaGreatDoor
end
section
set_option linter.unusedSectionVars false
set_option linter.unusedVariables false
namespace Go.Proofs.YtldokelpolbnnaaGreatDoor
open Go.RowKit
structure FS where
 i : Nat
 rows : List (Value × List Value)
 L : List (List Rat)
 es : List Value
 D : List Rat
structure FK where
 k : Nat
 rows : List (Value × List Value)
 L : List (List Rat)
theorem oQ_get {v : Value} {rows : List (Value × List Value)} {i : Nat} {r : Value × List Value} (h : rows[i]? = some r) : (oQ v rows).es[i]? = some r.1 := by
 show (rows.map (·.1))[i]? = _
 rw [List.getElem?_map, h]; rfl
set_option maxHeartbeats 32000000 in
theorem refFactor0 {u m : PH} {a : Option Addr} {co : Nat} {rowsA : List (Value × List Value)} {A : List (List Rat)} {n : Nat} (hA : Rec n n A) (hn : n ≤ 4) (hszA : SzM A 1)
    (hQ0 : QAt u rowsA A) (hbag0 : Bag m (oQ (.slice a n co) rowsA :: rowsA.map qRow)) :
    Contract Tryz.prog 70 [.slice a n co] u m fun v u' m' => m' = PH.mt ∧ ∃ l d, v = .tuple #[l, d, .int .i64 (facN A : Int)] := by
  refine Contract.of Tryz.func70 (by kernel_rfl) (by kernel_rfl) ?_
  refine G.make 112 1 24 (.slice none 0 0) n (by kernel_rfl) rfl rfl (by omega) (by omega) (by omega) ?_
  rintro v1 m1 hL1 ⟨⟨gL, oL, sL⟩, rfl⟩
  obtain ⟨gL', cL', eL'⟩ : ∃ b c, Value.slice (some ⟨gL, oL, sL⟩) n n = .slice (some ⟨b, 0, none⟩) n c := by
    rcases hL1.2 with ⟨e, _⟩ | ⟨g, c, _, _, _, e, _⟩
    · simp at e
    · rw [List.length_replicate] at e; exact ⟨g, c, e⟩
  simp only [Value.slice.injEq, Option.some.injEq, Addr.mk.injEq, true_and] at eL'
  obtain ⟨⟨rfl, rfl, rfl⟩, rfl⟩ := eL'
  refine G.make 44 4 64 zQ n (by kernel_rfl) rfl rfl (by omega) (by omega) (by omega) ?_
  rintro v2 m2 hD1 ⟨⟨gD, oD, sD⟩, rfl⟩
  obtain ⟨gD', cD', eD'⟩ : ∃ b c, Value.slice (some ⟨gD, oD, sD⟩) n n = .slice (some ⟨b, 0, none⟩) n c := by
    rcases hD1.2 with ⟨e, _⟩ | ⟨g, c, _, _, _, e, _⟩
    · simp at e
    · rw [List.length_replicate] at e; exact ⟨g, c, e⟩
  simp only [Value.slice.injEq, Option.some.injEq, Addr.mk.injEq, true_and] at eD'
  obtain ⟨⟨rfl, rfl, rfl⟩, rfl⟩ := eD'
  have hb2 : Bag m2 (oQ (.slice (some ⟨gL, 0, none⟩) n n) (List.replicate n nilRow) :: qRow (.slice (some ⟨gD, 0, none⟩) n n, List.replicate n zQ) :: ((List.replicate n nilRow).map qRow ++ (oQ (.slice a n co) rowsA :: rowsA.map qRow))) := by
    have h0 := hbag0.nilsQ n
    have h1 : Bag m1 (oQ (.slice (some ⟨gL, 0, none⟩) n n) (List.replicate n nilRow) :: ((List.replicate n nilRow).map qRow ++ (oQ (.slice a n co) rowsA :: rowsA.map qRow))) := ⟨m, by rw [oQ_at, List.map_replicate]; exact hL1, h0⟩
    have h2 : Bag m2 (qRow (.slice (some ⟨gD, 0, none⟩) n n, List.replicate n zQ) :: oQ (.slice (some ⟨gL, 0, none⟩) n n) (List.replicate n nilRow) :: ((List.replicate n nilRow).map qRow ++ (oQ (.slice a n co) rowsA :: rowsA.map qRow))) := ⟨m1, hD1, h1⟩
    exact Bag.perm (List.Perm.swap _ _ _) h2
  refine G.loop (ι := Nat × List (Value × List Value)) (fun i => [(0, .v (.slice a n co)), (5, .v (.int .i64 (n : Int))), (6, .v (.slice (some ⟨gL, 0, none⟩) n n)), (7, .v (.slice (some ⟨gD, 0, none⟩) n n)), (23, .v (.int .i64 (n : Int))), (24, .v (.int .i64 (i.1 : Int)))]) (fun _ => [])
    (fun i u' m' => i.1 ≤ n ∧ i.2.length = n ∧ (∀ j r, i.2[j]? = some r → if j < i.1 then AtP QP u' r.2 (gM (idL n) j) else r = nilRow) ∧ Bag m' (oQ (.slice (some ⟨gL, 0, none⟩) n n) i.2 :: qRow (.slice (some ⟨gD, 0, none⟩) n n, List.replicate n zQ) :: (i.2.map qRow ++ (oQ (.slice a n co) rowsA :: rowsA.map qRow))))
    (fun i => n - i.1) (0, List.replicate n nilRow) (by kernel_rfl) (fun _ => by kernel_rfl) ⟨by kernel_rfl, by kernel_rfl, by kernel_rfl⟩
    ⟨Nat.zero_le _, by simp, fun j r hj => by rw [if_neg (Nat.not_lt_zero _)]; exact List.eq_of_mem_replicate (List.mem_of_getElem? hj), hb2⟩ ?_
  rintro J ⟨i, rows⟩ hJ u3 m3 l3 ⟨hi, hrn, hrow, hbag⟩
  simp only at hi hrn hrow hbag hJ
  by_cases hlt : i < n
  · refine G.lssT (i : Int) (n : Int) (by kernel_rfl) (by omega) ?_
    refine G.make 44 4 64 zQ n (by kernel_rfl) rfl rfl (by omega) (by omega) (by omega) ?_
    rintro v4 m4 hA4 ⟨⟨g4, o4, s4⟩, rfl⟩
    obtain ⟨g4', c4', e4'⟩ : ∃ b c, Value.slice (some ⟨g4, o4, s4⟩) n n = .slice (some ⟨b, 0, none⟩) n c := by
      rcases hA4.2 with ⟨e, _⟩ | ⟨g, c, _, _, _, e, _⟩
      · simp at e
      · rw [List.length_replicate] at e; exact ⟨g, c, e⟩
    simp only [Value.slice.injEq, Option.some.injEq, Addr.mk.injEq, true_and] at e4'
    obtain ⟨⟨rfl, rfl, rfl⟩, rfl⟩ := e4'
    have hri : rows[i]? = some nilRow := by
      have hx := hrow i rows[i] (List.getElem?_eq_getElem (by omega))
      rw [if_neg (by omega)] at hx
      rw [List.getElem?_eq_getElem (by omega), hx]
    obtain ⟨m0, hx0, hput⟩ := hbag.focus (i + 2) (getL hri)
    have hm0 : m0 = m3 := by
      rcases hx0.2 with ⟨_, _, e⟩ | ⟨_, _, _, _, _, e, _⟩
      · exact e.symm
      · simp [qRow, nilRow] at e
    subst hm0
    have hbag2 := hput (qRow (.slice (some ⟨g4, 0, none⟩) n n, List.replicate n zQ)) _ hA4
    rw [setL (by omega)] at hbag2
    obtain ⟨m0', hx1, hput1⟩ := hbag2.focus 0 rfl
    rw [oQ_at] at hx1
    refine G.addr gL 0 n n i 1 (by kernel_rfl) hlt ?_
    refine G.storeA 1 m0' _ gL n n i (.slice (some ⟨g4, 0, none⟩) n n) (by kernel_rfl) hx1 (by simp [hrn, hlt]) rfl rfl ?_
    intro m5 hx5
    have hbag3 := hput1 (oQ (.slice (some ⟨gL, 0, none⟩) n n) (rows.set i (.slice (some ⟨g4, 0, none⟩) n n, List.replicate n zQ))) m5 (by
      rw [oQ_at, List.map_set]; exact hx5)
    obtain ⟨rs, hrs⟩ : ∃ rs, rs = rows.set i (Value.slice (some ⟨g4, 0, none⟩) n n, List.replicate n zQ) := ⟨_, rfl⟩
    have hg5 : ElP m5 gL (0 + i * 1) (.slice (some ⟨g4, 0, none⟩) n n) := hbag3.el 0 (x := oQ _ _) rfl rfl (oQ_get (List.getElem?_set_self (by omega)))
    refine G.addr gL 0 n n i 1 (by kernel_rfl) hlt ?_
    refine G.loadM none gL (0 + i * 1) _ (by kernel_rfl) (by kernel_rfl) hg5 ?_
    have hset0 : ∀ e : List Value, (rows.set i (Value.slice (some ⟨g4, 0, none⟩) n n, List.replicate n zQ)).set i (Value.slice (some ⟨g4, 0, none⟩) n n, e) = rows.set i (Value.slice (some ⟨g4, 0, none⟩) n n, e) := fun e => List.set_set _
    refine G.loop (ι := Nat × List Value) (fun k => [(0, .v (.slice a n co)), (5, .v (.int .i64 (n : Int))), (6, .v (.slice (some ⟨gL, 0, none⟩) n n)), (7, .v (.slice (some ⟨gD, 0, none⟩) n n)), (23, .v (.int .i64 (n : Int))), (24, .v (.int .i64 (i : Int))), (8, .v (.int .i64 (i : Int))), (36, .v (.int .i64 (n : Int))), (37, .v (.int .i64 (k.1 : Int)))]) (fun _ => [])
      (fun k u' m' => k.1 ≤ n ∧ k.2.length = n ∧ (∀ j, j < k.1 → ∃ f, k.2[j]? = some (qv f) ∧ QP u' (qv f) 0) ∧ Bag m' (oQ (.slice (some ⟨gL, 0, none⟩) n n) (rows.set i (.slice (some ⟨g4, 0, none⟩) n n, k.2)) :: qRow (.slice (some ⟨gD, 0, none⟩) n n, List.replicate n zQ) :: ((rows.set i (.slice (some ⟨g4, 0, none⟩) n n, k.2)).map qRow ++ (oQ (.slice a n co) rowsA :: rowsA.map qRow))))
      (fun k => n - k.1) (0, List.replicate n zQ) (by kernel_rfl) (fun _ => by kernel_rfl) ⟨by kernel_rfl, by kernel_rfl, by kernel_rfl⟩
      ⟨Nat.zero_le _, by simp, fun j hj => absurd hj (Nat.not_lt_zero _), hbag3⟩ ?_
    rintro J2 ⟨k, e⟩ hJ2 u6 m6 l6 ⟨hk, hen, he, hbag6⟩
    simp only at hk hen he hbag6 hJ2
    have hil : i < (rows.set i (Value.slice (some ⟨g4, 0, none⟩) n n, e)).length := by simp [hrn, hlt]
    have hgi : (rows.set i (Value.slice (some ⟨g4, 0, none⟩) n n, e))[i]? = some (Value.slice (some ⟨g4, 0, none⟩) n n, e) := List.getElem?_set_self (by omega)
    have hg6 : ElP m6 gL (0 + i * 1) (.slice (some ⟨g4, 0, none⟩) n n) := hbag6.el 0 (x := oQ _ _) rfl rfl (oQ_get hgi)
    obtain ⟨m0, hx6, hput6⟩ := hbag6.focus (i + 2) (getL hgi)
    rw [qRow_at] at hx6
    by_cases hkl : k < n
    · refine G.lssT (k : Int) (n : Int) (by kernel_rfl) (by omega) ?_
      refine G.addr gL 0 n n i 1 (by kernel_rfl) hlt ?_
      refine G.loadM none gL (0 + i * 1) _ (by kernel_rfl) (by kernel_rfl) hg6 ?_
      refine G.call0 _ _ (by kernel_rfl) Tryz.call17 (refOf0 (z := 0) (by omega) (by omega)) ?_
      intro v7 u7 l7 k7
      rw [show ((0 : Int) : Rat) = 0 from by decide] at k7
      obtain ⟨f7, rfl⟩ := k7.opQ
      refine G.addr g4 0 n n k 4 (by kernel_rfl) hkl ?_
      refine G.storeA 4 m0 _ g4 n n k (qv f7) (by kernel_rfl) hx6 (by show k < e.length; omega) rfl rfl ?_
      intro m8 hx8
      have hb8 := hput6 (qRow (.slice (some ⟨g4, 0, none⟩) n n, e.set k (qv f7))) m8 hx8
      rw [setL hil, List.set_set] at hb8
      have hb8' : Bag m8 (oQ (.slice (some ⟨gL, 0, none⟩) n n) (rows.set i (.slice (some ⟨g4, 0, none⟩) n n, e.set k (qv f7))) :: qRow (.slice (some ⟨gD, 0, none⟩) n n, List.replicate n zQ) :: ((rows.set i (.slice (some ⟨g4, 0, none⟩) n n, e.set k (qv f7))).map qRow ++ (oQ (.slice a n co) rowsA :: rowsA.map qRow))) := by
        have : oQ (.slice (some ⟨gL, 0, none⟩) n n) (rows.set i (.slice (some ⟨g4, 0, none⟩) n n, e.set k (qv f7))) = oQ (.slice (some ⟨gL, 0, none⟩) n n) (rows.set i (.slice (some ⟨g4, 0, none⟩) n n, e)) := by
          unfold oQ; rw [List.map_set, List.map_set]
        rw [this]; exact hb8
      refine G.add (k : Int) 1 ((k + 1 : Nat) : Int) (by kernel_rfl) (by omega) (by omega) (by omega) ?_
      refine G.back (by kernel_rfl) (hJ2 (k + 1, e.set k (qv f7)) _ _ _ ⟨by kernel_rfl, by kernel_rfl, by kernel_rfl⟩ (l6.trans l7) ⟨by dsimp only; omega, by simpa using hen, fun j hj => ?_, hb8'⟩ (by dsimp only; omega))
      dsimp only at hj ⊢
      by_cases e1 : j = k
      · subst e1
        exact ⟨f7, List.getElem?_set_self (by omega), k7⟩
      · obtain ⟨f, h1, h2⟩ := he j (by omega)
        exact ⟨f, by rw [List.getElem?_set_ne (fun h => e1 h.symm)]; exact h1, h2.mono l7⟩
    · obtain rfl : k = n := by omega
      refine G.lssF (k : Int) (k : Int) (by kernel_rfl) (by omega) ?_
      refine G.addr gL 0 k k i 1 (by kernel_rfl) hlt ?_
      refine G.loadM none gL (0 + i * 1) _ (by kernel_rfl) (by kernel_rfl) hg6 ?_
      refine G.call0 _ _ (by kernel_rfl) Tryz.call17 (refOf0 (z := 1) (by omega) (by omega)) ?_
      intro v7 u7 l7 k7
      rw [show ((1 : Int) : Rat) = 1 from by decide] at k7
      obtain ⟨f7, rfl⟩ := k7.opQ
      refine G.addr g4 0 k k i 4 (by kernel_rfl) hlt ?_
      refine G.storeA 4 m0 _ g4 k k i (qv f7) (by kernel_rfl) hx6 (by show i < e.length; omega) rfl rfl ?_
      intro m8 hx8
      have hb8 := hput6 (qRow (.slice (some ⟨g4, 0, none⟩) k k, e.set i (qv f7))) m8 hx8
      rw [setL hil, List.set_set] at hb8
      have hb8' : Bag m8 (oQ (.slice (some ⟨gL, 0, none⟩) k k) (rows.set i (.slice (some ⟨g4, 0, none⟩) k k, e.set i (qv f7))) :: qRow (.slice (some ⟨gD, 0, none⟩) k k, List.replicate k zQ) :: ((rows.set i (.slice (some ⟨g4, 0, none⟩) k k, e.set i (qv f7))).map qRow ++ (oQ (.slice a k co) rowsA :: rowsA.map qRow))) := by
        have : oQ (.slice (some ⟨gL, 0, none⟩) k k) (rows.set i (.slice (some ⟨g4, 0, none⟩) k k, e.set i (qv f7))) = oQ (.slice (some ⟨gL, 0, none⟩) k k) (rows.set i (.slice (some ⟨g4, 0, none⟩) k k, e)) := by
          unfold oQ; rw [List.map_set, List.map_set]
        rw [this]; exact hb8
      refine G.add (i : Int) 1 ((i + 1 : Nat) : Int) (by kernel_rfl) (by omega) (by omega) (by omega) ?_
      refine G.back (by kernel_rfl) (hJ (i + 1, rows.set i (.slice (some ⟨g4, 0, none⟩) k k, e.set i (qv f7))) _ _ _ ⟨by kernel_rfl, by kernel_rfl, by kernel_rfl⟩ ((l3.trans l6).trans l7) ⟨by dsimp only; omega, by simpa using hrn, fun j r hj => ?_, hb8'⟩ (by dsimp only; omega))
      dsimp only at hj ⊢
      rw [List.getElem?_set] at hj
      by_cases e1 : i = j
      · subst e1
        rw [if_pos rfl, if_pos (by omega)] at hj
        simp only [Option.some.injEq] at hj
        rw [if_pos (by omega), ← hj, gM_idL hlt]
        refine ⟨by simp [hen], fun t x ht => ?_⟩
        rw [List.getElem?_map] at ht
        have htk : t < k := by
          rcases Nat.lt_or_ge t k with h | h
          · exact h
          · rw [List.getElem?_eq_none (by simp; omega)] at ht; simp at ht
        rw [List.getElem?_range htk] at ht
        simp only [Option.map_some, Option.some.injEq] at ht
        by_cases e2 : t = i
        · subst e2
          exact ⟨qv f7, List.getElem?_set_self (by omega), by rw [← ht, if_pos rfl]; exact k7⟩
        · obtain ⟨f, h1, h2⟩ := he t htk
          exact ⟨qv f, by rw [List.getElem?_set_ne (fun h => e2 h.symm)]; exact h1, by rw [← ht, if_neg e2]; exact h2.mono l7⟩
      · rw [if_neg e1] at hj
        have := hrow j r hj
        by_cases hji : j < i
        · rw [if_pos hji] at this
          rw [if_pos (by omega)]
          exact this.mono (fun _ _ h => h.mono (l6.trans l7))
        · rw [if_neg hji] at this
          rw [if_neg (by omega)]; exact this
  obtain rfl : n = i := by omega
  refine G.lssF (n : Int) (n : Int) (by kernel_rfl) (by omega) ?_
  have hQL0 : QAt u3 rows (idL n) := ⟨by rw [hrn, (rec_idL n).1], fun j r hj => by
    have hjl : j < n := by
      obtain ⟨h1, _⟩ := List.getElem?_eq_some_iff.1 hj
      omega
    have := hrow j r hj
    rwa [if_pos hjl] at this⟩
  have hszA' : ∀ i j, i < n → j < n → Sz (gR (gM A i) j) 1 := fun i j hi hj => hszA.at hA hi hj
  refine G.loop (ι := FS) (fun s => [(0, .v (.slice a n co)), (5, .v (.int .i64 (n : Int))), (6, .v (.slice (some ⟨gL, 0, none⟩) n n)), (7, .v (.slice (some ⟨gD, 0, none⟩) n n)), (10, .v (.int .i64 (s.i : Int)))]) (fun _ => [])
    (fun s u' m' => s.i ≤ n ∧ facGo A (n - s.i) s.i s.L s.D = facN A ∧ Rec n n s.L ∧ SzM s.L (fB s.i) ∧ QAt u' s.rows s.L ∧ s.es.length = n ∧ s.D.length = s.i ∧ DAt u' s.es s.D (fB s.i) ∧ Bag m' (oQ (.slice (some ⟨gL, 0, none⟩) n n) s.rows :: qRow (.slice (some ⟨gD, 0, none⟩) n n, s.es) :: (s.rows.map qRow ++ (oQ (.slice a n co) rowsA :: rowsA.map qRow))))
    (fun s => n - s.i) ⟨0, rows, idL n, List.replicate n zQ, []⟩ (by kernel_rfl) (fun _ => by kernel_rfl) ⟨by kernel_rfl, by kernel_rfl, by kernel_rfl⟩
    ⟨Nat.zero_le _, by show facGo A n 0 (idL n) [] = _; unfold facN; rw [hA.1], rec_idL n, szM_idL n, hQL0, by simp, rfl, fun j hj => absurd hj (Nat.not_lt_zero _), hbag⟩ ?_
  clear hbag hrow hQL0 hrn hJ
  rintro J ⟨i, rows, L, es, D⟩ hJ u4 m4 l4 ⟨hi, hgo, hL, hszL, hQL, hel, hDl, hD, hbag⟩
  simp only at hi hgo hL hszL hQL hel hDl hD hbag hJ
  by_cases hlt : i < n
  · refine G.lssT (i : Int) (n : Int) (by kernel_rfl) (by omega) ?_
    have hw : 0 < n := by omega
    obtain ⟨f, hf⟩ : ∃ f, n - i = f + 1 := ⟨n - i - 1, by omega⟩
    have hgo' : (if fsum (frow A D i i 0 L) D i i i 0 (gR (gM A i) i) ≤ 0 then i else facGo A f (i + 1) (frow A D i i 0 L) (D ++ [fsum (frow A D i i 0 L) D i i i 0 (gR (gM A i) i)])) = facN A := by rw [← hgo, hf]; rfl
    obtain ⟨gA, cA, eA⟩ : ∃ b c, a = some ⟨b, 0, none⟩ ∧ co = c := by
      have hrA : rowsA.length = n := by rw [hQ0.1, hA.1]
      obtain ⟨b, c, e⟩ := hbag0.ptr 0 rfl (by intro e; simp only [oQ, List.map_eq_nil_iff] at e; rw [e] at hrA; simp at hrA; omega)
      simp only [oQ, Value.slice.injEq] at e
      exact ⟨b, c, e.1, e.2.2⟩
    obtain ⟨rfl, rfl⟩ := eA
    refine G.loop (ι := FK) (fun s => [(0, .v (.slice (some ⟨gA, 0, none⟩) n co)), (5, .v (.int .i64 (n : Int))), (6, .v (.slice (some ⟨gL, 0, none⟩) n n)), (7, .v (.slice (some ⟨gD, 0, none⟩) n n)), (10, .v (.int .i64 (i : Int))), (11, .v (.int .i64 (s.k : Int)))]) (fun _ => [])
      (fun s u' m' => s.k ≤ i ∧ frow A D i (i - s.k) s.k s.L = frow A D i i 0 L ∧ Rec n n s.L ∧ SzM s.L (fR (fB i) s.k) ∧ QAt u' s.rows s.L ∧ Bag m' (oQ (.slice (some ⟨gL, 0, none⟩) n n) s.rows :: qRow (.slice (some ⟨gD, 0, none⟩) n n, es) :: (s.rows.map qRow ++ (oQ (.slice (some ⟨gA, 0, none⟩) n co) rowsA :: rowsA.map qRow))))
      (fun s => i - s.k) ⟨0, rows, L⟩ (by kernel_rfl) (fun _ => by kernel_rfl) ⟨by kernel_rfl, by kernel_rfl, by kernel_rfl⟩
      ⟨Nat.zero_le _, rfl, hL, hszL, hQL, hbag⟩ ?_
    clear hbag hQL
    rintro J2 ⟨k, rows2, L2⟩ hJ2 u5 m5 l5 ⟨hk, hgo2, hL2, hszL2, hQL2, hbag2⟩
    simp only at hk hgo2 hL2 hszL2 hQL2 hbag2 hJ2
    have hD5 := hD.mono l5 (Nat.le_refl _)
    have hQA5 : QAt u5 rowsA A := hQ0.mono ((l3.trans l4).trans l5)
    obtain ⟨hsm, hs1⟩ := fR_small (i := i) (k := k) (by omega) hk
    obtain ⟨B, hB⟩ : ∃ B, B = fR (fB i) k := ⟨_, rfl⟩
    have hBi : fB i ≤ B := by
      rw [hB]; clear hB hsm hs1 hszL2 hgo2 hJ2 hk
      induction k with
      | zero => exact Nat.le_refl _
      | succ k ih => exact Nat.le_trans ih (fR_up _ _)
    rw [← hB] at hsm hs1 hszL2
    have hDB := hD5.mono (PH.le_refl _) hBi
    have dEl : ∀ j, j < i → ∃ f, ElP m5 gD (0 + j * 4) (qv f) ∧ QP u5 (qv f) (gR D j) ∧ Sz (gR D j) B ∧ 0 < gR D j := fun j hj => by
      obtain ⟨f, h1, h2, h3, h4⟩ := hDB j (by omega)
      exact ⟨f, hbag2.el 1 (x := qRow (.slice (some ⟨gD, 0, none⟩) n n, es)) rfl rfl h1, h2, h3, h4⟩
    obtain ⟨gi, ci, ei, hri, heil, hAti, hoi, hci⟩ := rowL hbag2 hQL2 hL2 hlt hw
    by_cases hki : k < i
    · refine G.lssT (k : Int) (i : Int) (by kernel_rfl) (by omega) ?_
      obtain ⟨f2, hf2⟩ : ∃ f2, i - k = f2 + 1 := ⟨i - k - 1, by omega⟩
      obtain ⟨gk, ck, ek, hrk, hekl, hAtk, hok, hck⟩ := rowL hbag2 hQL2 hL2 (show k < n by omega) hw
      obtain ⟨ga, ca, fa, ha1, ha2, ha3⟩ := entA hbag2 hQA5 hA hlt (show k < n by omega)
      refine G.addr gA 0 n co i 1 (by kernel_rfl) hlt ?_
      refine G.loadM none gA (0 + i * 1) _ (by kernel_rfl) (by kernel_rfl) ha1 ?_
      refine G.addr ga 0 n ca k 4 (by kernel_rfl) (by omega) ?_
      refine G.loadM (some 4) ga (0 + k * 4) (qv fa) (by kernel_rfl) (by kernel_rfl) ha3 ?_
      refine G.loop (ι := Nat × Q4 × Rat) (fun s => [(0, .v (.slice (some ⟨gA, 0, none⟩) n co)), (5, .v (.int .i64 (n : Int))), (6, .v (.slice (some ⟨gL, 0, none⟩) n n)), (7, .v (.slice (some ⟨gD, 0, none⟩) n n)), (10, .v (.int .i64 (i : Int))), (11, .v (.int .i64 (k : Int))), (12, .p 21007 0), (13, .v (.int .i64 (s.1 : Int)))]) (fun s => [(21007, ⟨44, qc s.2.1⟩)])
        (fun s u' m' => s.1 ≤ k ∧ fsum L2 D i k (k - s.1) s.1 s.2.2 = fsum L2 D i k k 0 (gR (gM A i) k) ∧ Sz s.2.2 (1 + s.1 * (3 * B + 1)) ∧ QP u' (qv s.2.1) s.2.2 ∧ m' = m5)
        (fun s => k - s.1) (0, fa, gR (gM A i) k) (by kernel_rfl) (fun _ => by kernel_rfl) ⟨by kernel_rfl, by kernel_rfl, by kernel_rfl⟩
        ⟨Nat.zero_le _, rfl, (hszA' i k hlt (by omega)).mono (by dsimp only; omega), ha2, rfl⟩ ?_
      rintro J3 ⟨j, fs, s⟩ hJ3 u6 m6 l6 ⟨hj, hgo3, hss, hqs, rfl⟩
      simp only at hj hgo3 hss hqs hJ3
      have hjB : j * (3 * B + 1) ≤ 2 * (3 * B + 1) := Nat.mul_le_mul_right _ (by omega)
      by_cases hjk : j < k
      · refine G.lssT (j : Int) (k : Int) (by kernel_rfl) (by omega) ?_
        obtain ⟨f3, hf3⟩ : ∃ f3, k - j = f3 + 1 := ⟨k - j - 1, by omega⟩
        obtain ⟨fi, _, hfi, hei⟩ := hci j (by omega)
        obtain ⟨fk, _, hfk, hek⟩ := hck j (by omega)
        obtain ⟨fd, hed, hfd, hsd, _⟩ := dEl j (by omega)
        have sI := hszL2.at hL2 hlt (show j < n by omega)
        have sK := hszL2.at hL2 (show k < n by omega) (show j < n by omega)
        refine G.addr gL 0 n n i 1 (by kernel_rfl) hlt ?_
        refine G.loadM none gL (0 + i * 1) _ (by kernel_rfl) (by kernel_rfl) hoi ?_
        refine G.addr gi 0 n ci j 4 (by kernel_rfl) (by omega) ?_
        refine G.loadM (some 4) gi (0 + j * 4) (qv fi) (by kernel_rfl) (by kernel_rfl) hei ?_
        refine G.addr gL 0 n n k 1 (by kernel_rfl) (by omega) ?_
        refine G.loadM none gL (0 + k * 1) _ (by kernel_rfl) (by kernel_rfl) hok ?_
        refine G.addr gk 0 n ck j 4 (by kernel_rfl) (by omega) ?_
        refine G.loadM (some 4) gk (0 + j * 4) (qv fk) (by kernel_rfl) (by kernel_rfl) hek ?_
        refine G.addr gD 0 n n j 4 (by kernel_rfl) (by omega) ?_
        refine G.loadM (some 4) gD (0 + j * 4) (qv fd) (by kernel_rfl) (by kernel_rfl) hed ?_
        refine G.call0 _ _ (by kernel_rfl) Tryz.call18 (refMul0 (hfi.mono l6) (hfk.mono l6) (sI.mono (by omega)) (sK.mono (by omega))) ?_
        intro v7 u7 l7 k7
        obtain ⟨f7, rfl⟩ := k7.opQ
        have s7 := sz_mul2 sI sK
        refine G.call0 _ _ (by kernel_rfl) Tryz.call18 (refMul0 k7 (hfd.mono (l6.trans l7)) (s7.mono (by omega)) (hsd.mono (by omega))) ?_
        intro v8 u8 l8 k8
        obtain ⟨f8, rfl⟩ := k8.opQ
        have s8 := sz_mul2 s7 hsd
        refine G.call0 _ _ (by kernel_rfl) Tryz.call28 (refSub0 (hqs.mono (l7.trans l8)) k8 (hss.mono (by omega)) (s8.mono (by omega))) ?_
        intro v9 u9 l9 k9
        obtain ⟨f9, rfl⟩ := k9.opQ
        have s9 := sz_sub2 hss s8
        have hst : 1 + j * (3 * B + 1) + (B + B + B) + 1 ≤ 1 + (j + 1) * (3 * B + 1) := by have := Nat.add_mul j 1 (3 * B + 1); omega
        refine G.add (j : Int) 1 ((j + 1 : Nat) : Int) (by kernel_rfl) (by omega) (by omega) (by omega) ?_
        refine G.back (by kernel_rfl) (hJ3 (j + 1, f9, s - gR (gM L2 i) j * gR (gM L2 k) j * gR D j) _ _ _ ⟨by kernel_rfl, by kernel_rfl, by kernel_rfl⟩ (((l6.trans l7).trans l8).trans l9) ⟨by dsimp only; omega, ?_, s9.mono hst, k9, rfl⟩ (by dsimp only; omega))
        dsimp only
        rw [← hgo3, hf3, show k - (j + 1) = f3 by omega]; rfl
      · obtain rfl : k = j := by omega
        refine G.lssF (k : Int) (k : Int) (by kernel_rfl) (by omega) ?_
        have hsum : s = fsum L2 D i k k 0 (gR (gM A i) k) := by rw [← hgo3, Nat.sub_self]; rfl
        obtain ⟨fd, hed, hfd, hsd, hpd⟩ := dEl k hki
        refine G.addr gL 0 n n i 1 (by kernel_rfl) hlt ?_
        refine G.loadM none gL (0 + i * 1) _ (by kernel_rfl) (by kernel_rfl) hoi ?_
        refine G.addr gD 0 n n k 4 (by kernel_rfl) (by omega) ?_
        refine G.loadM (some 4) gD (0 + k * 4) (qv fd) (by kernel_rfl) (by kernel_rfl) hed ?_
        refine G.call0 _ _ (by kernel_rfl) Tryz.call114 (refDiv0 hqs (hfd.mono l6) (hss.mono (by omega)) (hsd.mono (by omega)) (by grind)) ?_
        intro v7 u7 l7 k7
        obtain ⟨f7, rfl⟩ := k7.opQ
        have s7 := sz_div hss hsd (show gR D k ≠ 0 by grind)
        obtain ⟨m0, hx6, hput6⟩ := hbag2.focus (i + 2) (getL hri)
        rw [qRow_at] at hx6
        refine G.addr gi 0 n ci k 4 (by kernel_rfl) (by omega) ?_
        refine G.storeA 4 m0 _ gi n ci k (qv f7) (by kernel_rfl) hx6 (by show k < ei.length; omega) rfl rfl ?_
        intro m8 hx8
        have hil : i < rows2.length := (List.getElem?_eq_some_iff.1 hri).1
        have hb8 := hput6 (qRow (.slice (some ⟨gi, 0, none⟩) n ci, ei.set k (qv f7))) m8 hx8
        rw [setL hil] at hb8
        have hb8' : Bag m8 (oQ (.slice (some ⟨gL, 0, none⟩) n n) (rows2.set i (.slice (some ⟨gi, 0, none⟩) n ci, ei.set k (qv f7))) :: qRow (.slice (some ⟨gD, 0, none⟩) n n, es) :: ((rows2.set i (.slice (some ⟨gi, 0, none⟩) n ci, ei.set k (qv f7))).map qRow ++ (oQ (.slice (some ⟨gA, 0, none⟩) n co) rowsA :: rowsA.map qRow))) := by
          rw [oQ_set hri]; exact hb8
        have hil2 : i < L2.length := by rw [hL2.1]; exact hlt
        have hkw : k < (gM L2 i).length := by rw [hL2.2 i hlt]; omega
        refine G.add (k : Int) 1 ((k + 1 : Nat) : Int) (by kernel_rfl) (by omega) (by omega) (by omega) ?_
        have hrec3 : Rec n n (L2.set i ((gM L2 i).set k (s / gR D k))) := rec_set hL2 hlt (by rw [List.length_set, hL2.2 i hlt])
        have hB1 : fR (fB i) (k + 1) = 8 * B + 2 := by rw [hB]; rfl
        refine G.back (by kernel_rfl) (hJ2 ⟨k + 1, rows2.set i (.slice (some ⟨gi, 0, none⟩) n ci, ei.set k (qv f7)), L2.set i ((gM L2 i).set k (s / gR D k))⟩ _ _ _ ⟨by kernel_rfl, by kernel_rfl, by kernel_rfl⟩ ((l5.trans l6).trans l7) ⟨by dsimp only; omega, ?_, hrec3, ?_, ?_, hb8'⟩ (by dsimp only; omega))
        · dsimp only
          rw [← hgo2, hf2, show i - (k + 1) = f2 by omega, hsum]; rfl
        · dsimp only
          rw [hB1]
          refine szM_of hrec3 fun p q hp hq => ?_
          rw [gM_set hil2]
          split
          · rename_i e
            by_cases e2 : q = k
            · subst e2
              rw [gR_set hkw, if_pos rfl]; exact s7.mono (by omega)
            · rw [gR_set hkw, if_neg (fun h => e2 h.symm)]; exact (hszL2.at hL2 hlt hq).mono (by omega)
          · exact (hszL2.at hL2 hp hq).mono (by omega)
        · dsimp only
          exact (hQL2.mono (l6.trans l7)).set hil ((hAti.mono (fun _ _ h => h.mono (l6.trans l7))).set k k7)
    · obtain rfl : i = k := by omega
      refine G.lssF (i : Int) (i : Int) (by kernel_rfl) (by omega) ?_
      have hfr : L2 = frow A D i i 0 L := by rw [← hgo2, Nat.sub_self]; rfl
      rw [← hfr] at hgo'
      clear hJ2 hgo2
      obtain ⟨ga, ca, fa, ha1, ha2, ha3⟩ := entA hbag2 hQA5 hA hlt hlt
      refine G.addr gA 0 n co i 1 (by kernel_rfl) hlt ?_
      refine G.loadM none gA (0 + i * 1) _ (by kernel_rfl) (by kernel_rfl) ha1 ?_
      refine G.addr ga 0 n ca i 4 (by kernel_rfl) (by omega) ?_
      refine G.loadM (some 4) ga (0 + i * 4) (qv fa) (by kernel_rfl) (by kernel_rfl) ha3 ?_
      refine G.loop (ι := Nat × Q4 × Rat) (fun s => [(0, .v (.slice (some ⟨gA, 0, none⟩) n co)), (5, .v (.int .i64 (n : Int))), (6, .v (.slice (some ⟨gL, 0, none⟩) n n)), (7, .v (.slice (some ⟨gD, 0, none⟩) n n)), (10, .v (.int .i64 (i : Int))), (14, .p 27007 0), (15, .v (.int .i64 (s.1 : Int)))]) (fun s => [(27007, ⟨44, qc s.2.1⟩)])
        (fun s u' m' => s.1 ≤ i ∧ fsum L2 D i i (i - s.1) s.1 s.2.2 = fsum L2 D i i i 0 (gR (gM A i) i) ∧ Sz s.2.2 (1 + s.1 * (3 * B + 1)) ∧ QP u' (qv s.2.1) s.2.2 ∧ m' = m5)
        (fun s => i - s.1) (0, fa, gR (gM A i) i) (by kernel_rfl) (fun _ => by kernel_rfl) ⟨by kernel_rfl, by kernel_rfl, by kernel_rfl⟩
        ⟨Nat.zero_le _, rfl, (hszA' i i hlt hlt).mono (by dsimp only; omega), ha2, rfl⟩ ?_
      rintro J3 ⟨j, fs, s⟩ hJ3 u6 m6 l6 ⟨hj, hgo3, hss, hqs, rfl⟩
      simp only at hj hgo3 hss hqs hJ3
      have hjB : j * (3 * B + 1) ≤ 3 * (3 * B + 1) := Nat.mul_le_mul_right _ (by omega)
      by_cases hjk : j < i
      · refine G.lssT (j : Int) (i : Int) (by kernel_rfl) (by omega) ?_
        obtain ⟨f3, hf3⟩ : ∃ f3, i - j = f3 + 1 := ⟨i - j - 1, by omega⟩
        obtain ⟨fi, _, hfi, hei⟩ := hci j (by omega)
        obtain ⟨fd, hed, hfd, hsd, _⟩ := dEl j (by omega)
        have sI := hszL2.at hL2 hlt (show j < n by omega)
        refine G.addr gL 0 n n i 1 (by kernel_rfl) hlt ?_
        refine G.loadM none gL (0 + i * 1) _ (by kernel_rfl) (by kernel_rfl) hoi ?_
        refine G.addr gi 0 n ci j 4 (by kernel_rfl) (by omega) ?_
        refine G.loadM (some 4) gi (0 + j * 4) (qv fi) (by kernel_rfl) (by kernel_rfl) hei ?_
        refine G.addr gL 0 n n i 1 (by kernel_rfl) hlt ?_
        refine G.loadM none gL (0 + i * 1) _ (by kernel_rfl) (by kernel_rfl) hoi ?_
        refine G.addr gi 0 n ci j 4 (by kernel_rfl) (by omega) ?_
        refine G.loadM (some 4) gi (0 + j * 4) (qv fi) (by kernel_rfl) (by kernel_rfl) hei ?_
        refine G.addr gD 0 n n j 4 (by kernel_rfl) (by omega) ?_
        refine G.loadM (some 4) gD (0 + j * 4) (qv fd) (by kernel_rfl) (by kernel_rfl) hed ?_
        refine G.call0 _ _ (by kernel_rfl) Tryz.call18 (refMul0 (hfi.mono l6) (hfi.mono l6) (sI.mono (by omega)) (sI.mono (by omega))) ?_
        intro v7 u7 l7 k7
        obtain ⟨f7, rfl⟩ := k7.opQ
        have s7 := sz_mul2 sI sI
        refine G.call0 _ _ (by kernel_rfl) Tryz.call18 (refMul0 k7 (hfd.mono (l6.trans l7)) (s7.mono (by omega)) (hsd.mono (by omega))) ?_
        intro v8 u8 l8 k8
        obtain ⟨f8, rfl⟩ := k8.opQ
        have s8 := sz_mul2 s7 hsd
        refine G.call0 _ _ (by kernel_rfl) Tryz.call28 (refSub0 (hqs.mono (l7.trans l8)) k8 (hss.mono (by omega)) (s8.mono (by omega))) ?_
        intro v9 u9 l9 k9
        obtain ⟨f9, rfl⟩ := k9.opQ
        have s9 := sz_sub2 hss s8
        have hst : 1 + j * (3 * B + 1) + (B + B + B) + 1 ≤ 1 + (j + 1) * (3 * B + 1) := by have := Nat.add_mul j 1 (3 * B + 1); omega
        refine G.add (j : Int) 1 ((j + 1 : Nat) : Int) (by kernel_rfl) (by omega) (by omega) (by omega) ?_
        refine G.back (by kernel_rfl) (hJ3 (j + 1, f9, s - gR (gM L2 i) j * gR (gM L2 i) j * gR D j) _ _ _ ⟨by kernel_rfl, by kernel_rfl, by kernel_rfl⟩ (((l6.trans l7).trans l8).trans l9) ⟨by dsimp only; omega, ?_, s9.mono hst, k9, rfl⟩ (by dsimp only; omega))
        dsimp only
        rw [← hgo3, hf3, show i - (j + 1) = f3 by omega]; rfl
      · obtain rfl : i = j := by omega
        refine G.lssF (i : Int) (i : Int) (by kernel_rfl) (by omega) ?_
        have hsum : s = fsum L2 D i i i 0 (gR (gM A i) i) := by rw [← hgo3, Nat.sub_self]; rfl
        rw [← hsum] at hgo'
        clear hJ3 hgo3
        refine G.call0 _ _ (by kernel_rfl) Tryz.call29 (refSign0 hqs (Nat.le_trans hss.1 (by omega))) ?_
        rintro v7 u7 l7 rfl
        rw [sgn_num]
        by_cases hs0 : s ≤ 0
        · rw [if_pos hs0] at hgo'
          refine G.leqT (sg s) 0 (by kernel_rfl) (by rcases sg_cases s with ⟨_, e⟩ | ⟨_, e⟩ | ⟨h, _⟩; · rw [e]; decide
                                                     · rw [e]; decide
                                                     · grind) ?_
          refine G.drop PH.mt (by kernel_rfl) (PH.mt_le _) ?_
          exact G.ret (.tuple #[.slice (some ⟨gL, 0, none⟩) n n, .slice (some ⟨gD, 0, none⟩) n n, .int .i64 (i : Int)]) (by kernel_rfl) ⟨rfl, _, _, by rw [← hgo']⟩
        · rw [if_neg hs0] at hgo'
          have hsp : 0 < s := by grind
          refine G.leqF (sg s) 0 (by kernel_rfl) (by rw [sg_pos hsp]; decide) ?_
          obtain ⟨m0, hx6, hput6⟩ := hbag2.focus 1 rfl
          rw [qRow_at] at hx6
          refine G.addr gD 0 n n i 4 (by kernel_rfl) hlt ?_
          refine G.storeA 4 m0 _ gD n n i (qv fs) (by kernel_rfl) hx6 (by show i < es.length; omega) rfl rfl ?_
          intro m8 hx8
          have hb8 := hput6 (qRow (.slice (some ⟨gD, 0, none⟩) n n, es.set i (qv fs))) m8 hx8
          have hB1 : fB (i + 1) = 10 * B + 3 := by rw [hB]; rfl
          refine G.add (i : Int) 1 ((i + 1 : Nat) : Int) (by kernel_rfl) (by omega) (by omega) (by omega) ?_
          refine G.back (by kernel_rfl) (hJ ⟨i + 1, rows2, L2, es.set i (qv fs), D ++ [s]⟩ _ _ _ ⟨by kernel_rfl, by kernel_rfl, by kernel_rfl⟩ (((l4.trans l5).trans l6).trans l7) ⟨by dsimp only; omega, ?_, hL2, hszL2.mono (by dsimp only; omega), hQL2.mono (l6.trans l7), by simpa using hel, by simp [hDl], ?_, hb8⟩ (by dsimp only; omega))
          · dsimp only
            rw [← hgo', show n - (i + 1) = f by omega]
          · dsimp only
            rw [hB1]
            intro t ht
            simp only [List.length_append, List.length_cons, List.length_nil] at ht
            by_cases e1 : t = i
            · subst e1
              have eg : gR (D ++ [s]) t = s := by unfold gR; rw [List.getD_eq_getElem?_getD, List.getElem?_append_right (by omega), hDl, Nat.sub_self]; rfl
              rw [eg]
              exact ⟨fs, List.getElem?_set_self (by omega), hqs.mono l7, hss.mono (by omega), hsp⟩
            · obtain ⟨f', h1, h2, h3, h4⟩ := hDB t (by omega)
              have eg : gR (D ++ [s]) t = gR D t := by unfold gR; rw [List.getD_eq_getElem?_getD, List.getD_eq_getElem?_getD, List.getElem?_append_left (by omega)]
              rw [eg]
              exact ⟨f', by rw [List.getElem?_set_ne (fun h => e1 h.symm)]; exact h1, h2.mono (l6.trans l7), h3.mono (by omega), h4⟩
  · obtain rfl : n = i := by omega
    refine G.lssF (n : Int) (n : Int) (by kernel_rfl) (by omega) ?_
    rw [Nat.sub_self] at hgo
    refine G.drop PH.mt (by kernel_rfl) (PH.mt_le _) ?_
    exact G.ret (.tuple #[.slice (some ⟨gL, 0, none⟩) n n, .slice (some ⟨gD, 0, none⟩) n n, .int .i64 (n : Int)]) (by kernel_rfl) ⟨rfl, _, _, by rw [← hgo]; rfl⟩
end Go.Proofs.YtldokelpolbnnaaGreatDoor
end
section
set_option linter.unusedSectionVars false
set_option linter.unusedVariables false
namespace Go.Proofs.YtldokelpolbnnaaGreatDoor
open Go.RowKit
theorem refPositive0 {u : PH} {v : Value} {A : List (List Rat)} (h : MatP u v (matT A)) (hs : Sq A) (hy : SymM A) (hT : ∀ r ∈ A, ∀ q ∈ r, Tw q) (h4 : A.length ≤ 4) (h1 : SzM A 1) :
  Fn0 Tryz.prog 30 [v] u fun v' _ => v' = .tuple #[.bool (decide (facN A = A.length)), .int .i64 0] := by
 obtain ⟨a, c, rfl⟩ := h.opn
 rw [matT_length] at h ⊢
 refine Fn0.of Tryz.func30 (by kernel_rfl) (by kernel_rfl) ?_
 refine G.call0 _ _ (by kernel_rfl) Tryz.call69 (refBefore0 h hs hy hT) ?_
 rintro v1 u1 l1 rfl
 refine G.neqF 0 0 (by kernel_rfl) (by omega) ?_
 refine G.callO _ _ (by kernel_rfl) Tryz.call71 (refReadM0 (h.mono l1) hs) ?_
 rintro v3 u3 m3 l3 ⟨a3, c3, rows, rfl, hQ, hbag⟩ _
 rw [mt_or]
 refine G.callA _ _ (by kernel_rfl) (by kernel_rfl) Tryz.call70 (mt_or _).symm (apart_mt _) (refFactor0 (sq_rec hs) h4 h1 hQ hbag) ?_
 rintro v4 u4 m4 l4 ⟨rfl, l, d, rfl⟩ _
 rw [mt_or]
 by_cases hf : facN A = A.length
 ·refine G.eqlT (facN A : Int) (A.length : Int) (by kernel_rfl) (by omega) ?_
  exact G.ret (.tuple #[.bool true, .int .i64 0]) (by kernel_rfl) ⟨rfl, by rw [decide_eq_true hf]⟩
 ·refine G.eqlF (facN A : Int) (A.length : Int) (by kernel_rfl) (by omega) ?_
  exact G.ret (.tuple #[.bool false, .int .i64 0]) (by kernel_rfl) ⟨rfl, by rw [decide_eq_false hf]⟩
theorem refRank0 {u : PH} {v : Value} {A : List (List Rat)} (h : MatP u v (matT A)) (hs : Sq A) (hT : ∀ r ∈ A, ∀ q ∈ r, Tw q) (h4 : A.length ≤ 4) :
  Fn0 Tryz.prog 32 [v] u fun v' _ => v' = .tuple #[.int .i64 ((elimGo A.length 0 [] A 1).1.length : Int), .int .i64 0] := by
 obtain ⟨a, c, rfl⟩ := h.opn
 rw [matT_length] at h ⊢
 refine Fn0.of Tryz.func32 (by kernel_rfl) (by kernel_rfl) ?_
 refine G.call0 _ _ (by kernel_rfl) Tryz.call67 (refShape0 h hs) ?_
 rintro v1 u1 l1 rfl
 refine G.neqF 0 0 (by kernel_rfl) (by omega) ?_
 refine G.maxI [3, 3] (A.length : Int) (A.length : Int) (A.length : Int) (by kernel_rfl) (by omega) ?_
 refine G.call0 _ _ (by kernel_rfl) Tryz.call72 (refHeavy0 (n := A.length) (h.mono l1) hs hT hs.le) ?_
 rintro v2 u2 l2 rfl
 refine G.callO _ _ (by kernel_rfl) Tryz.call71 (refReadM0 (h.mono (l1.trans l2)) hs) ?_
 rintro v3 u3 m3 l3 ⟨a3, c3, rows, rfl, hQ, hbag⟩ _
 rw [mt_or]
 refine G.callA _ _ (by kernel_rfl) (by kernel_rfl) Tryz.call73 (mt_or _).symm (apart_mt _) (refElim0 (sq_rec hs) (by omega) (by omega) (Nat.le_refl _) (szM_tw hs hT) (by omega) (es12 h4) hQ hbag) ?_
 rintro v4 u4 m4 l4 ⟨pa, pc, f, rows', rfl, hq, _, _⟩ _
 rw [mt_or]
 refine G.drop PH.mt (by kernel_rfl) (PH.mt_le _) ?_
 exact G.ret (.tuple #[.int .i64 ((elimGo A.length 0 [] A 1).1.length : Int), .int .i64 0]) (by kernel_rfl) ⟨rfl, rfl⟩
end Go.Proofs.YtldokelpolbnnaaGreatDoor
end
section
set_option linter.unusedSectionVars false
set_option linter.unusedVariables false
namespace Go.Proofs.YtldokelpolbnnaaGreatDoor
open Go.RowKit
theorem thin_tw {B : List (List Rat)} {n : Nat} (hT : ThinOK B n) : ∀ r ∈ B, ∀ q ∈ r, Tw q := fun r hr q hq => by
 obtain ⟨i, hi, rfl⟩ := List.mem_iff_getElem.1 hr
 rw [← gM_at hi] at hq
 exact ((hT i hi).2 q hq).smR.tw
end Go.Proofs.YtldokelpolbnnaaGreatDoor
end
section
set_option linter.unusedSectionVars false
set_option linter.unusedVariables false
namespace Go.Proofs.YtldokelpolbnnaaGreatDoor
open Go.RowKit
def past (P : Program) (st : List KI × S) : List KI × S := match one P (meet P 200 st).1 (meet P 200 st).2 with | some st' => st' | none => st
section
variable {P : Program} [Mixed P] {fn : Func} {Post : Spec} {st : List KI × S} {u m : PH}
theorem G.past (h : G P fn Post (past P st) u m) : G P fn Post st u m := by
 unfold Go.Proofs.YtldokelpolbnnaaGreatDoor.past at h
 split at h
 ·rename_i st' he
  exact ⟨meet_sound 200 st (one_sound Mixed.mx he h.out)⟩
 ·exact h
theorem G.appendN (e : TypeId) (sz bt : Nat) (z : Value) (xs : List Value) (a : Option Addr) (n c : Nat) (h : stopV P (adv P st) = .app (some (e, sz, bt, z)) true [.slice none 0 0, .slice a n c]) (hz : z.cells.toList.all cellOK = true) (hzs : z.cells.size = sz) (hsz : 0 < sz)
  (hx : ListP u (.slice a n c) sz xs) (ho : ElsOK sz xs) (hn : xs.length = n) (hb : n * bt ≤ 140737488355328) (hb2 : n ≤ 9223372036854775807)
  (k : ∀ a' c' m', ArrAt m m' (.slice a' n c') e sz xs → G P fn Post (nx (adv P st) (.slice a' n c')) u m') : G P fn Post st u m := by
 by_cases h0 : n = 0
 ·subst h0
  obtain rfl := List.eq_nil_of_length_eq_zero hn
  exact G.appendNil e sz bt z a c h (k none 0 m (ArrAt.nil _ _ _))
 ·obtain ⟨b, o, rfl, _⟩ := hx.at' (j := 0) (List.getElem?_eq_getElem (by omega))
  refine G.append e sz bt z m [] xs (.slice none 0 0) b o n c h hz hzs hsz (ArrAt.nil _ _ _) hx.els ho hn (by omega) (by simpa using hb) (by simpa using hb2) ?_
  intro v' m' hA
  rw [List.nil_append] at hA
  obtain ⟨a', c', rfl⟩ := hA.shape
  rw [hn] at hA ⊢
  exact k a' c' m' hA
end
theorem charSz {A : List (List Rat)} {n : Nat} (hl : A.length = n) (h4 : n ≤ 4) (hT : ThinOK A n) (hs : ∀ i j, j < i → i < n → gR (gM A i) j = gR (gM A j) i) : SzL (charL A) 1 := by
 by_cases h0 : n = 0
 ·subst h0
  obtain rfl := List.eq_nil_of_length_eq_zero hl
  intro q hq
  simp [charL, charGo] at hq
  subst hq; exact sz_one (z := 1) (by decide)
 ·exact (prod_all hl (by omega) h4 hT hs).sz
theorem SmR.neg {q : Rat} (h : SmR q) : SmR (-q) := ⟨by simpa using h.num, by simpa using h.den⟩
theorem smR_ord {q r : Rat} (h : SmR q) (h' : SmR r) : Tx (q - r) := by
 rw [Rat.sub_eq_add_neg]
 exact ((h.t12.add h'.neg.t12).tw (by omega)).tx
structure BelOK (A : List (List Rat)) (x y : Rat) : Prop where
 sum : lessL (charL A) x + (equalL (charL A) x : Int) ≤ lessL (charL A) y + (equalL (charL A) y : Int)
 less : lessL (charL A) x ≤ lessL (charL A) y
 all : lessL (charL A) 1000 = (A.length : Int)
 none : equalL (charL A) 1000 = 0
 pos : decide (lessL (charL A) 0 + (equalL (charL A) 0 : Int) = 0) = decide (facN A = A.length)
 ml : lessL (charL (mvM (-x) A)) 0 = lessL (charL A) x
 me : equalL (charL (mvM (-x) A)) 0 = equalL (charL A) x
 rank : ((elimGo A.length 0 [] (mvM (-x) A) 1).1.length : Int) = (A.length : Int) - (equalL (charL A) x : Int)
theorem belOK {A : List (List Rat)} {n : Nat} {x y : Rat} (hl : A.length = n) (h4 : n ≤ 4) (hT : ThinOK A n) (hs : ∀ i j, j < i → i < n → gR (gM A i) j = gR (gM A j) i) (hxy : x ≤ y) : BelOK A x y := by
 have hcl : (charL A).length ≤ 5 := by rw [charL_length, hl]; omega
 obtain ⟨h1, h2⟩ := less_mono hxy (charL A) hcl (char_last1 A)
 obtain ⟨h3, h5⟩ := far_all hl h4 hT hs
 have hsq := thin_sq hl hT
 have hp := pos_iff hsq (symE_of hs) h4
 have hf := fac_iff hsq (symE_of hs) h4
 obtain ⟨h6, h7⟩ := moved_all hsq hs h4 x (-x)
 rw [show x + -x = 0 by grind] at h6 h7
 have hmsq : SqN n (mvM (-x) A) := ⟨by rw [mvM_length, hl], fun r hr => by
  obtain ⟨i, hi, rfl⟩ := List.mem_iff_getElem.1 hr
  rw [mvM_length] at hi
  have e := gM_mv (m := -x) hi
  rw [gM_at (by rw [mvM_length]; exact hi)] at e
  rw [e, List.length_set, (hT i (by omega)).1]⟩
 have hmsym : SymE n (mvM (-x) A) := by
  refine symE_of fun i j hj hi => ?_
  have hil : i < (gM A i).length := by rw [(hT i (by omega)).1]; omega
  have hjl : j < (gM A j).length := by rw [(hT j (by omega)).1]; omega
  rw [gM_mv (by omega), gM_mv (by omega), gR_set hil, gR_set hjl, if_neg (by omega), if_neg (by omega)]
  exact hs i j hj hi
 have hr := zer_rank hmsq hmsym h4
 have hz : equalL (charL (mvM (-x) A)) 0 = zer (charL (mvM (-x) A)) := by
  unfold equalL; rw [shift_same _ (by rw [charL_length, mvM_length, hl]; omega)]
 refine ⟨h2, h1, by rw [hl]; exact h3, h5, ?_, h6, h7, ?_⟩
 ·rw [hl]; exact decide_eq_decide.2 (hp.trans hf.symm)
 ·rw [hl]; omega
set_option maxHeartbeats 16000000 in
theorem belowLaw0 {u : PH} {v : Value} {ts : List Int} (ht : TabU u) (hv : ListP u v 1 (intsZ ts)) (hlo : ∀ t ∈ ts, -9223372036854775808 ≤ t) (hhi : ∀ t ∈ ts, t ≤ 9223372036854775807) :
    Fn0 Tryz.prog 5 [v] u fun v' _ => v' = .bool true := by
  obtain ⟨a, c, rfl⟩ := hv.opn
  rw [intsZ_length] at hv ⊢
  refine Fn0.of Tryz.func5 (by kernel_rfl) (by kernel_rfl) ?_
  by_cases h400 : 400 < ts.length
  · refine G.gtrT (ts.length : Int) 400 (by kernel_rfl) (by omega) ?_
    refine G.call0 _ _ (by kernel_rfl) Tryz.call8 (sane0 ht) ?_
    rintro v1 u1 l1 rfl
    exact G.ret (.bool true) (by kernel_rfl) ⟨rfl, rfl⟩
  refine G.gtrF (ts.length : Int) 400 (by kernel_rfl) (by omega) ?_
  refine G.callO _ _ (by kernel_rfl) Tryz.call9 (srcNew0 hv (by omega) hlo hhi) ?_
  rintro v1 u1 m1 l1 ⟨s, rfl, rfl, hs⟩ _
  rw [mt_or]
  refine G.callA _ _ (by kernel_rfl) (by kernel_rfl) Tryz.call10 (mt_or _).symm (apart_mt _) (srcN0 (n := 5) hs (Nat.zero_le _) (by omega) (by omega)) ?_
  rintro v2 u2 m2 l2 ⟨n, k2, rfl, hn, hk2, rfl⟩ _
  rw [mt_or]
  refine G.callA _ _ (by kernel_rfl) (by kernel_rfl) Tryz.call22 (mt_or _).symm (apart_mt _) (srcSymmetric0 (n := n) (hs.mono l2) hk2 (by omega)) ?_
  rintro v3 u3 m3 l3 ⟨A, k3, hA, hAl, hAT, hAs, hk3, rfl⟩ _
  rw [mt_or]
  have hn4 : n ≤ 4 := by omega
  have hN := niceThin hAl hn4 hAT hAs
  have hcs := charSz hAl hn4 hAT hAs
  have hTw := thin_tw hAT
  obtain ⟨aA, cA, rfl⟩ := hA.opn
  rw [matT_length] at hA ⊢
  refine G.callA _ _ (by kernel_rfl) (by kernel_rfl) Tryz.call13 (mt_or _).symm (apart_mt _) (srcRat0 (hs.mono (l2.trans l3)) hk3) ?_
  rintro v4 u4 m4 l4 ⟨x0, k4, rfl, hx0, hk4, rfl⟩ _
  rw [mt_or]
  refine G.callA _ _ (by kernel_rfl) (by kernel_rfl) Tryz.call13 (mt_or _).symm (apart_mt _) (srcRat0 (hs.mono ((l2.trans l3).trans l4)) hk4) ?_
  rintro v5 u5 m5 l5 ⟨y0, k5, rfl, hy0, hk5, rfl⟩ _
  rw [mt_or]
  refine G.drop PH.mt (by kernel_rfl) (PH.mt_le _) ?_
  have hA5 := hA.mono (l4.trans l5)
  have ht5 : TabU u5 := ht.mono ((((l1.trans l2).trans l3).trans l4).trans l5)
  clear hs hv
  refine G.call0 _ _ (by kernel_rfl) Tryz.call14 (refCompare0 hx0.tx hy0.tx) ?_
  rintro v6 u6 l6 rfl
  rw [sgn_num]
  refine G.join (ι := Rat × Rat) (.bool false) (fun i => [(4, .v (.slice aA A.length cA)), (5, .v (.string (mkS (ratT i.1)))), (6, .v (.string (mkS (ratT i.2))))]) (fun _ => [])
    (fun i u' m' => SmR i.1 ∧ SmR i.2 ∧ i.1 ≤ i.2 ∧ m' = PH.mt) (fun _ => by kernel_rfl) (by kernel_rfl) ?tail ?way
  case way =>
    intro hjoin
    by_cases hlt : y0 < x0
    · refine G.gtrT (sg (x0 - y0)) 0 (by kernel_rfl) (by rw [sg_pos (by grind)]; decide) ?_
      refine G.past ?_
      exact hjoin (y0, x0) _ _ _ (by kernel_rfl) ⟨by kernel_rfl, by kernel_rfl, by kernel_rfl⟩ (PH.le_refl _) ⟨hy0, hx0, by dsimp only; grind, rfl⟩
    · refine G.gtrF (sg (x0 - y0)) 0 (by kernel_rfl) (by rcases sg_cases (x0 - y0) with ⟨_, e⟩ | ⟨_, e⟩ | ⟨h, _⟩; · rw [e]; decide
                                                         · rw [e]; decide
                                                         · grind) ?_
      exact hjoin (x0, y0) _ _ _ (by kernel_rfl) ⟨by kernel_rfl, by kernel_rfl, by kernel_rfl⟩ (PH.le_refl _) ⟨hx0, hy0, by dsimp only; grind, rfl⟩
  case tail =>
  rintro ⟨x, y⟩ u7 m7 l7 ⟨hx, hy, hxy, rfl⟩
  simp only at hx hy hxy
  have hb := belOK hAl hn4 hAT hAs hxy
  have l67 := l6.trans l7
  have hA7 := hA5.mono l67
  have ht7 := ht5.mono l67
  have h0t : Tw 0 := t12_zero
  have hmt : Tw 1000 := ⟨by decide +kernel, by decide +kernel⟩
  have hbel := fun {u' : PH} {z : Rat} (hz : Tw z) (hl : PH.le u7 u') => belowG (u := u') (S := 1) (T' := 12) (x := z) (ht7.mono hl) (hA7.mono hl) hN (niceX12 hz _) (fun _ => hcs) (by omega)
  refine G.call0 _ _ (by kernel_rfl) Tryz.call15 (hbel hx.tw (PH.le_refl _)) ?_
  rintro v8 u8 l8 rfl
  refine G.call0 _ _ (by kernel_rfl) Tryz.call15 (hbel hy.tw l8) ?_
  rintro v9 u9 l9 rfl
  have e0 : ratT 0 = [48] := ratT_zero
  have e1000 : ratT 1000 = [49, 48, 48, 48] := by decide +kernel
  have hb0 := hbel (u' := u9) h0t (l8.trans l9)
  rw [e0] at hb0
  refine G.call0 _ _ (by kernel_rfl) Tryz.call15 hb0 ?_
  rintro v10 u10 l10 rfl
  have hb1 := hbel (u' := u10) hmt ((l8.trans l9).trans l10)
  rw [e1000] at hb1
  refine G.call0 _ _ (by kernel_rfl) Tryz.call15 hb1 ?_
  rintro v11 u11 l11 rfl
  have l711 := ((l8.trans l9).trans l10).trans l11
  have hS1 : SzM A 1 := szM_of (sq_rec hN.sq) fun i j hi hj => by
    have h1 := hAT i hi
    have : gR (gM A i) j ∈ gM A i := gR_mem (by rw [h1.1]; omega)
    exact (h1.2 _ this).in.sz (by decide)
  refine G.call0 _ _ (by kernel_rfl) Tryz.call30 (refPositive0 (hA7.mono l711) hN.sq hN.sym hTw (by omega) hS1) ?_
  rintro v12 u12 l12 rfl
  have l712 := l711.trans l12
  rw [← hb.pos]
  generalize hgb : decide (lessL (charL A) 0 + (equalL (charL A) 0 : Int) = 0) = b
  have q1 := less_abs (charL A) x (by rw [charL_length]; omega)
  have q2 := less_abs (charL A) y (by rw [charL_length]; omega)
  have q3 := less_abs (charL A) 0 (by rw [charL_length]; omega)
  have q4' := equal_abs (charL A) x (by rw [charL_length]; omega)
  have q5 := equal_abs (charL A) y (by rw [charL_length]; omega)
  have q6 := equal_abs (charL A) 0 (by rw [charL_length]; omega)
  refine G.neqF 0 0 (by kernel_rfl) (by omega) ?_
  refine G.neqF 0 0 (by kernel_rfl) (by omega) ?_
  refine G.neqF 0 0 (by kernel_rfl) (by omega) ?_
  refine G.neqF 0 0 (by kernel_rfl) (by omega) ?_
  refine G.neqF 0 0 (by kernel_rfl) (by omega) ?_
  refine G.add (lessL (charL A) x) (equalL (charL A) x : Int) (lessL (charL A) x + (equalL (charL A) x : Int)) (by kernel_rfl) rfl (by omega) (by omega) ?_
  refine G.add (lessL (charL A) y) (equalL (charL A) y : Int) (lessL (charL A) y + (equalL (charL A) y : Int)) (by kernel_rfl) rfl (by omega) (by omega) ?_
  have hsum := hb.sum
  have hless := hb.less
  refine G.gtrF (lessL (charL A) x + (equalL (charL A) x : Int)) (lessL (charL A) y + (equalL (charL A) y : Int)) (by kernel_rfl) (by omega) ?_
  refine G.gtrF (lessL (charL A) x) (lessL (charL A) y) (by kernel_rfl) (by omega) ?_
  refine G.neqF (lessL (charL A) 1000) (A.length : Int) (by kernel_rfl) (by rw [hb.all]; omega) ?_
  refine G.neqF (equalL (charL A) 1000 : Int) 0 (by kernel_rfl) (by rw [hb.none]; decide) ?_
  refine G.add (lessL (charL A) 0) (equalL (charL A) 0 : Int) (lessL (charL A) 0 + (equalL (charL A) 0 : Int)) (by kernel_rfl) rfl (by omega) (by omega) ?_
  refine G.cmpG .eql .i64 (lessL (charL A) 0 + (equalL (charL A) 0 : Int)) 0 b (by kernel_rfl) rfl hgb ?_
  refine G.neB b b (by kernel_rfl) ?_
  rw [show (!(b == b)) = false by cases b <;> rfl]
  obtain ⟨esB, hLB, hRB⟩ := hA7.mono l712
  have hesl : esB.length = n := by rw [hRB.1, matT_length, hAl]
  have hBrow : ∀ y, y < n → ∃ ay cy, esB[y]? = some (.slice ay n cy) ∧ StrsP u12 (.slice ay n cy) ((gM A y).map ratT) := fun y hy => by
    obtain ⟨ay, cy, h1, h2⟩ := hRB.2 y ((gM A y).map ratT) (by rw [matT, List.getElem?_map, List.getElem?_eq_getElem (by omega : y < A.length), gM_at (by omega)]; rfl)
    rw [List.length_map, (hAT y (by omega)).1] at h1 h2
    exact ⟨ay, cy, h1, h2⟩
  have hBok : ElsOK 1 esB := rows_ok fun e he => by
    obtain ⟨y, hy, rfl⟩ := List.mem_iff_getElem.1 he
    obtain ⟨ay, cy, h1, _⟩ := hBrow y (by omega)
    rw [List.getElem?_eq_getElem hy] at h1
    exact ⟨ay, n, cy, Option.some.inj h1⟩
  rw [hAl] at hLB ⊢
  refine G.appendN 27 1 24 (.slice none 0 0) esB aA n cA (by kernel_rfl) rfl rfl (by omega) hLB hBok hesl (by omega) (by omega) ?_
  intro aM cM m16 hx16
  have hbag0 : Bag m16 (mvA (.slice aM n cM) esB :: []) := ⟨_, hx16, trivial⟩
  refine G.loop (ι := Nat × List (Value × List Value)) (fun i => [(4, .v (.slice aA n cA)), (5, .v (.string (mkS (ratT x)))), (7, .v (.int .i64 (lessL (charL A) x))), (8, .v (.int .i64 (equalL (charL A) x : Int))), (21, .v (.slice aM n cM)), (132, .v (.int .i64 (n : Int))), (133, .v (.int .i64 (i.1 : Int)))]) (fun _ => [])
    (fun i u' m' => i.1 ≤ n ∧ i.2.length = i.1 ∧ (∀ y q, i.2[y]? = some q → q.2 = strsV ((gM (mvM (-x) A) y).map ratT)) ∧ Bag m' (mvA (.slice aM n cM) (i.2.map (·.1) ++ esB.drop i.1) :: i.2.map sRow))
    (fun i => n - i.1) (0, []) (by kernel_rfl) (fun _ => by kernel_rfl) ⟨by kernel_rfl, by kernel_rfl, by kernel_rfl⟩ ⟨Nat.zero_le _, rfl, fun y q hy => by simp at hy, by simpa using hbag0⟩ ?_
  clear hbag0 hx16
  rintro J9 ⟨y', rws⟩ hJ9 u17 m17 l17 ⟨hy', hrwl, hrw, hbag⟩
  simp only at hy' hrwl hrw hbag hJ9
  by_cases hlty : y' < n
  · refine G.lssT (y' : Int) (n : Int) (by kernel_rfl) (by omega) ?_
    obtain ⟨gm, cm, eM⟩ := hbag.ptr 0 rfl (by intro e; have := congrArg List.length e; simp [mvA, hrwl, hesl] at this; omega)
    have hlen0 : (rws.map (·.1) ++ esB.drop y').length = n := by simp [hrwl, hesl]; omega
    simp only [mvA, hlen0, Value.slice.injEq, true_and] at eM
    obtain ⟨rfl, rfl⟩ := eM
    obtain ⟨ay, cy, hey, hSy⟩ := hBrow y' hlty
    have hgl : (gM A y').length = n := (hAT y' (by omega)).1
    have hyB : y' < (gM A y').length := by omega
    obtain ⟨by', oy, rfl, _⟩ := ListP.at' hSy (j := 0) (e := (strsV ((gM A y').map ratT))[0]'(by simp [strsV]; omega)) (List.getElem?_eq_getElem _)
    have hsl : (strsV ((gM A y').map ratT)).length = n := by simp [strsV, hgl]
    have hel0 : ElP m17 gm (0 + y' * 1) (.slice (some ⟨by', oy, none⟩) n cy) := hbag.el 0 (x := mvA _ _) rfl rfl (by show (rws.map (·.1) ++ esB.drop y')[y']? = _; rw [List.getElem?_append_right (by simp; omega)]; simp [hrwl, hey])
    refine G.addr gm 0 n cM y' 1 (by kernel_rfl) hlty ?_
    refine G.loadM none gm (0 + y' * 1) _ (by kernel_rfl) (by kernel_rfl) hel0 ?_
    refine G.append 34 1 16 (.string (mkS [])) m17 [] (strsV ((gM A y').map ratT)) (.slice none 0 0) by' oy n cy (by kernel_rfl) rfl rfl (by omega) (ArrAt.nil _ _ _) (ListP.els (ListP.mono hSy l17)) (strsV_ok _) hsl (by omega) (by simp; omega) (by simp; omega) ?_
    intro v18 m18 hx18
    rw [List.nil_append] at hx18
    obtain ⟨gn, cn, rfl⟩ := hx18.ptr (by intro e; rw [e] at hsl; simp at hsl; omega)
    rw [hsl] at hx18 ⊢
    have hbag2 : Bag m18 (sRow (.slice (some ⟨gn, 0, none⟩) n cn, strsV ((gM A y').map ratT)) :: mvA (.slice (some ⟨gm, 0, none⟩) n cM) (rws.map (·.1) ++ esB.drop y') :: rws.map sRow) := ⟨m17, hx18, hbag⟩
    obtain ⟨m0, hx0', hput⟩ := hbag2.focus 1 rfl
    rw [mvA_at] at hx0'
    refine G.addr gm 0 n cM y' 1 (by kernel_rfl) hlty ?_
    refine G.storeA 1 m0 _ gm n cM y' (.slice (some ⟨gn, 0, none⟩) n cn) (by kernel_rfl) hx0' (by simp; omega) rfl rfl ?_
    intro m19 hx19
    have hset : (rws.map (·.1) ++ esB.drop y').set y' (Value.slice (some ⟨gn, 0, none⟩) n cn) = (rws.map (·.1) ++ [Value.slice (some ⟨gn, 0, none⟩) n cn]) ++ esB.drop (y' + 1) := by
      rw [List.set_append_right _ _ (by simp; omega)]
      simp only [List.length_map, hrwl, Nat.sub_self, List.append_assoc]
      rw [List.drop_eq_getElem_cons (by omega : y' < esB.length)]; rfl
    rw [hset] at hx19
    have hbag3 := hput (mvA (.slice (some ⟨gm, 0, none⟩) n cM) ((rws.map (·.1) ++ [Value.slice (some ⟨gn, 0, none⟩) n cn]) ++ esB.drop (y' + 1))) m19 hx19
    have hel1 : ElP m19 gm (0 + y' * 1) (.slice (some ⟨gn, 0, none⟩) n cn) := hbag3.el 1 (x := mvA _ _) rfl rfl (by show ((rws.map (·.1) ++ [Value.slice (some ⟨gn, 0, none⟩) n cn]) ++ esB.drop (y' + 1))[y']? = _; rw [List.getElem?_append_left (by simp; omega), List.getElem?_append_right (by simp; omega)]; simp [hrwl])
    have hel2 : ElP m19 gn (0 + y' * 1) (.string (mkS (ratT (gR (gM A y') y')))) := hbag3.el 0 (x := sRow _) rfl rfl (by show (strsV ((gM A y').map ratT))[y']? = _; simp [strsV, List.getElem?_eq_getElem hyB, gR_at hyB])
    refine G.addr gm 0 n cM y' 1 (by kernel_rfl) hlty ?_
    refine G.loadM none gm (0 + y' * 1) _ (by kernel_rfl) (by kernel_rfl) hel1 ?_
    refine G.addr gm 0 n cM y' 1 (by kernel_rfl) hlty ?_
    refine G.loadM none gm (0 + y' * 1) _ (by kernel_rfl) (by kernel_rfl) hel1 ?_
    refine G.addr gn 0 n cn y' 1 (by kernel_rfl) hlty ?_
    refine G.loadM none gn (0 + y' * 1) _ (by kernel_rfl) (by kernel_rfl) hel2 ?_
    have hqy : SmR (gR (gM A y') y') := ((hAT y' (by omega)).2 _ (gR_mem hyB)).smR
    refine G.call0 _ _ (by kernel_rfl) Tryz.call31 (refSubT hqy.tx hx.tx (smR_ord hqy hx)) ?_
    rintro v20 u20 l20 rfl
    obtain ⟨m0', hx0'', hput'⟩ := hbag3.focus 0 rfl
    rw [sRow_at] at hx0''
    refine G.addr gn 0 n cn y' 1 (by kernel_rfl) hlty ?_
    refine G.storeA 1 m0' _ gn n cn y' (.string (mkS (ratT (gR (gM A y') y' - x)))) (by kernel_rfl) hx0'' (by simp [strsV]; omega) rfl rfl ?_
    intro m21 hx21
    have hrowe : (strsV ((gM A y').map ratT)).set y' (.string (mkS (ratT (gR (gM A y') y' - x)))) = strsV ((gM (mvM (-x) A) y').map ratT) := by
      rw [gM_mv (by omega), Rat.sub_eq_add_neg]; unfold strsV; rw [← List.map_set, ← List.map_set]
    simp only at hx21
    rw [hrowe] at hx21
    have hbag4 := hput' (sRow (.slice (some ⟨gn, 0, none⟩) n cn, strsV ((gM (mvM (-x) A) y').map ratT))) m21 hx21
    have hbag5 := Bag.perm perm_row hbag4
    refine G.add (y' : Int) 1 ((y' + 1 : Nat) : Int) (by kernel_rfl) (by omega) (by omega) (by omega) ?_
    refine G.back (by kernel_rfl) (hJ9 (y' + 1, rws ++ [(Value.slice (some ⟨gn, 0, none⟩) n cn, strsV ((gM (mvM (-x) A) y').map ratT))]) _ _ _ ⟨by kernel_rfl, by kernel_rfl, by kernel_rfl⟩ (l17.trans l20) ⟨by dsimp only; omega, by simp [hrwl], ?_, by simpa using hbag5⟩ (by dsimp only; omega))
    intro z q hq
    dsimp only at hq
    by_cases hyy : z < rws.length
    · rw [List.getElem?_append_left hyy] at hq; exact hrw z q hq
    · rw [List.getElem?_append_right (by omega)] at hq
      have : z = y' := by
        rcases Nat.eq_zero_or_pos (z - rws.length) with h0 | h0
        · omega
        · rw [List.getElem?_eq_none (by simp; omega)] at hq; cases hq
      subst this
      rw [hrwl, Nat.sub_self] at hq
      simp at hq; subst hq; rfl
  · obtain rfl : n = y' := by omega
    refine G.lssF (n : Int) (n : Int) (by kernel_rfl) (by omega) ?_
    rw [List.drop_of_length_le (by omega), List.append_nil] at hbag
    refine G.giveP (ma := m17) (sm := PH.mt) (by kernel_rfl) (or_mt _).symm (fun _ => .inr rfl) (fun _ => .inl rfl) ?_
    intro u18 l18 hm18
    have hSA : SAt rws (mvM (-x) A) := ⟨by rw [hrwl, mvM_length, hAl], hrw⟩
    have hmM : MatP u18 (.slice aM n cM) (matT (mvM (-x) A)) := matOfBag hbag hSA hm18
    have hnM := niceMoved hAl (by omega) hAT hAs hx.neg
    have hml : (mvM (-x) A).length = n := by rw [mvM_length, hAl]
    have hsM : SzL (charL (mvM (-x) A)) 60 := by
      rw [char_moved (thin_sq hAl hAT) hAs hn4]
      exact shift_sz (by rw [charL_length]; omega) hcs (by simpa using hx.sz)
    have hl18 := (l712.trans l17).trans l18
    have hbM := belowG (u := u18) (S := 60) (T' := 12) (x := 0) (ht7.mono hl18) hmM hnM (niceX12 h0t _) (fun _ => hsM) (by omega)
    rw [e0] at hbM
    refine G.call0 _ _ (by kernel_rfl) Tryz.call15 hbM ?_
    rintro v19 u19 l19 rfl
    have hTM : ∀ r ∈ mvM (-x) A, ∀ q ∈ r, Tw q := fun r hr q hq => by
      obtain ⟨i, hi, rfl⟩ := List.mem_iff_getElem.1 hr
      rw [mvM_length] at hi
      have e := gM_mv (m := -x) hi
      rw [gM_at (by rw [mvM_length]; exact hi)] at e
      rw [e] at hq
      have hgi := (hAT i (by omega)).2
      rcases List.mem_or_eq_of_mem_set hq with h | h
      · exact (hgi q h).smR.tw
      · have hil : i < (gM A i).length := by rw [(hAT i (by omega)).1]; omega
        rw [h]; exact (((hgi _ (gR_mem hil)).smR.t12.add hx.neg.t12).tw (by omega))
    have hrk := refRank0 (u := u19) (hmM.mono l19) hnM.sq hTM (by omega)
    rw [hml] at hrk
    refine G.call0 _ _ (by kernel_rfl) Tryz.call32 hrk ?_
    rintro v20 u20 l20 rfl
    have hrank := hb.rank
    rw [hAl] at hrank
    refine G.eqlT 0 0 (by kernel_rfl) rfl ?_
    refine G.eqlT (lessL (charL (mvM (-x) A)) 0) (lessL (charL A) x) (by kernel_rfl) hb.ml ?_
    refine G.eqlT (equalL (charL (mvM (-x) A)) 0 : Int) (equalL (charL A) x : Int) (by kernel_rfl) (by rw [hb.me]) ?_
    refine G.eqlT 0 0 (by kernel_rfl) rfl ?_
    refine G.sub (n : Int) (equalL (charL A) x : Int) ((n : Int) - (equalL (charL A) x : Int)) (by kernel_rfl) rfl (by omega) (by omega) ?_
    refine G.eqlT ((elimGo n 0 [] (mvM (-x) A) 1).1.length : Int) ((n : Int) - (equalL (charL A) x : Int)) (by kernel_rfl) hrank ?_
    refine G.call0 _ _ (by kernel_rfl) Tryz.call8 (sane0 (ht7.mono ((hl18.trans l19).trans l20))) ?_
    rintro v21 u21 l21 rfl
    exact G.ret (.bool true) (by kernel_rfl) ⟨rfl, rfl⟩
end Go.Proofs.YtldokelpolbnnaaGreatDoor
end
