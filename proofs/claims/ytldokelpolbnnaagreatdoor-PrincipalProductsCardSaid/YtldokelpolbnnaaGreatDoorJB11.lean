/- Joined out of parts of one proof by a program: contracts of the functions that the statement reaches, and the plain facts behind them. -/
import Derived.Test.YtldokelpolbnnaaGreatDoorJB10
set_option linter.unusedVariables false
set_option linter.unusedSimpArgs false
set_option linter.unusedSectionVars false
section
set_option linter.unusedVariables false
set_option linter.unusedSimpArgs false
namespace Go.Proofs.YtldokelpolbnnaaGreatDoor
def dtm : Nat → (Nat → Nat → Rat) → Rat
  | 0, _ => 1
  | 1, e => e 0 0
  | 2, e => e 0 0 * e 1 1 - e 0 1 * e 1 0
  | 3, e => e 0 0 * (e 1 1 * e 2 2 - e 1 2 * e 2 1) - e 0 1 * (e 1 0 * e 2 2 - e 1 2 * e 2 0) + e 0 2 * (e 1 0 * e 2 1 - e 1 1 * e 2 0)
  | 4, e =>
    e 0 0 * (e 1 1 * (e 2 2 * e 3 3 - e 2 3 * e 3 2) - e 1 2 * (e 2 1 * e 3 3 - e 2 3 * e 3 1) + e 1 3 * (e 2 1 * e 3 2 - e 2 2 * e 3 1))
    - e 0 1 * (e 1 0 * (e 2 2 * e 3 3 - e 2 3 * e 3 2) - e 1 2 * (e 2 0 * e 3 3 - e 2 3 * e 3 0) + e 1 3 * (e 2 0 * e 3 2 - e 2 2 * e 3 0))
    + e 0 2 * (e 1 0 * (e 2 1 * e 3 3 - e 2 3 * e 3 1) - e 1 1 * (e 2 0 * e 3 3 - e 2 3 * e 3 0) + e 1 3 * (e 2 0 * e 3 1 - e 2 1 * e 3 0))
    - e 0 3 * (e 1 0 * (e 2 1 * e 3 2 - e 2 2 * e 3 1) - e 1 1 * (e 2 0 * e 3 2 - e 2 2 * e 3 0) + e 1 2 * (e 2 0 * e 3 1 - e 2 1 * e 3 0))
  | _, _ => 0
theorem lt4 {n r : Nat} (hn : n ≤ 4) (hr : r < n) : (n = 1 ∨ n = 2 ∨ n = 3 ∨ n = 4) ∧ (r = 0 ∨ r = 1 ∨ r = 2 ∨ r = 3) := by omega
theorem dtm_congr {n : Nat} (hn : n ≤ 4) (e e' : Nat → Nat → Rat) (h : ∀ i j, i < n → j < n → e i j = e' i j) : dtm n e = dtm n e' := by
  have : n = 0 ∨ n = 1 ∨ n = 2 ∨ n = 3 ∨ n = 4 := by omega
  rcases this with rfl | rfl | rfl | rfl | rfl <;> simp [dtm, h]
theorem dtm_scale {n r : Nat} (hn : n ≤ 4) (hr : r < n) (e : Nat → Nat → Rat) (s : Rat) : dtm n (fun i j => if i = r then e i j * s else e i j) = s * dtm n e := by
  obtain ⟨h1, h2⟩ := lt4 hn hr
  rcases h1 with rfl | rfl | rfl | rfl <;> rcases h2 with rfl | rfl | rfl | rfl <;> first | omega | (simp [dtm]; try grind)
theorem dtm_swap {n r p : Nat} (hn : n ≤ 4) (hr : r < n) (hp : p < n) (hne : p ≠ r) (e : Nat → Nat → Rat) : dtm n (fun i j => if i = r then e p j else if i = p then e r j else e i j) = - dtm n e := by
  obtain ⟨h1, h2⟩ := lt4 hn hr
  obtain ⟨_, h3⟩ := lt4 hn hp
  rcases h1 with rfl | rfl | rfl | rfl <;> rcases h2 with rfl | rfl | rfl | rfl <;> rcases h3 with rfl | rfl | rfl | rfl <;> first | omega | (simp [dtm]; grind)
theorem dtm_sub {n r p : Nat} (hn : n ≤ 4) (hr : r < n) (hp : p < n) (hne : p ≠ r) (e : Nat → Nat → Rat) (g : Rat) : dtm n (fun i j => if i = p then e i j - g * e r j else e i j) = dtm n e := by
  obtain ⟨h1, h2⟩ := lt4 hn hr
  obtain ⟨_, h3⟩ := lt4 hn hp
  rcases h1 with rfl | rfl | rfl | rfl <;> rcases h2 with rfl | rfl | rfl | rfl <;> rcases h3 with rfl | rfl | rfl | rfl <;> first | omega | (simp [dtm]; grind)
theorem dtm_id {n : Nat} (hn : n ≤ 4) : dtm n (fun i j => if i = j then 1 else 0) = 1 := by
  have : n = 0 ∨ n = 1 ∨ n = 2 ∨ n = 3 ∨ n = 4 := by omega
  rcases this with rfl | rfl | rfl | rfl | rfl <;> simp [dtm] <;> grind
theorem dtm_zero {n c : Nat} (hn : n ≤ 4) (hc : c < n) (e : Nat → Nat → Rat) (h1 : ∀ i j, i < n → j < c → e i j = if i = j then 1 else 0) (h2 : ∀ i, c ≤ i → i < n → e i c = 0) : dtm n e = 0 := by
  obtain ⟨h3, h4⟩ := lt4 hn hc
  rcases h3 with rfl | rfl | rfl | rfl <;> rcases h4 with rfl | rfl | rfl | rfl <;> first | omega | (simp [dtm, h1, h2]; try grind)
theorem diag4 (t a b c d e f g h i j k l m n o p : Rat) : diagGo t 4 0 [[a, b, c, d], [e, f, g, h], [i, j, k, l], [m, n, o, p]] = [[a + t, b, c, d], [e, f + t, g, h], [i, j, k + t, l], [m, n, o, p + t]] := by
  simp [diagGo, gR, gM]
theorem char4_1 (a b c d e f g h i j : Rat) : charL [[a, b, c, d], [b, e, f, g], [c, f, h, i], [d, g, i, j]] = charGo [[a, b, c, d], [b, e, f, g], [c, f, h, i], [d, g, i, j]] 4 3 2 [[a, b, c, d], [b, e, f, g], [c, f, h, i], [d, g, i, j]] [(-a - e - h - j), 1] := by
  show charGo _ 4 4 1 [[0, 0, 0, 0], [0, 0, 0, 0], [0, 0, 0, 0], [0, 0, 0, 0]] [1] = _
  rw [charGo, show gR [1] 0 = 1 from rfl, diag4]
  congr 1 <;> simp [nextGo, rowGo, sumGo, gR, gM] <;> grind
theorem char4_2 (a b c d e f g h i j : Rat) : charGo [[a, b, c, d], [b, e, f, g], [c, f, h, i], [d, g, i, j]] 4 3 2 [[a, b, c, d], [b, e, f, g], [c, f, h, i], [d, g, i, j]] [(-a - e - h - j), 1] = charGo [[a, b, c, d], [b, e, f, g], [c, f, h, i], [d, g, i, j]] 4 2 3 [[(a * a + b * b + c * c + d * d + (-a - e - h - j) * a), (a * b + b * e + c * f + d * g + (-a - e - h - j) * b), (a * c + b * f + c * h + d * i + (-a - e - h - j) * c), (a * d + b * g + c * i + d * j + (-a - e - h - j) * d)], [(b * a + e * b + f * c + g * d + (-a - e - h - j) * b), (b * b + e * e + f * f + g * g + (-a - e - h - j) * e), (b * c + e * f + f * h + g * i + (-a - e - h - j) * f), (b * d + e * g + f * i + g * j + (-a - e - h - j) * g)], [(c * a + f * b + h * c + i * d + (-a - e - h - j) * c), (c * b + f * e + h * f + i * g + (-a - e - h - j) * f), (c * c + f * f + h * h + i * i + (-a - e - h - j) * h), (c * d + f * g + h * i + i * j + (-a - e - h - j) * i)], [(d * a + g * b + i * c + j * d + (-a - e - h - j) * d), (d * b + g * e + i * f + j * g + (-a - e - h - j) * g), (d * c + g * f + i * h + j * i + (-a - e - h - j) * i), (d * d + g * g + i * i + j * j + (-a - e - h - j) * j)]] [(a * e - b * b + a * h - c * c + a * j - d * d + e * h - f * f + e * j - g * g + h * j - i * i), (-a - e - h - j), 1] := by
  rw [charGo, show gR [(-a - e - h - j), 1] 0 = (-a - e - h - j) from rfl, diag4]
  congr 1 <;> simp [nextGo, rowGo, sumGo, gR, gM] <;> grind
theorem char4_3 (a b c d e f g h i j : Rat) : charGo [[a, b, c, d], [b, e, f, g], [c, f, h, i], [d, g, i, j]] 4 2 3 [[(a * a + b * b + c * c + d * d + (-a - e - h - j) * a), (a * b + b * e + c * f + d * g + (-a - e - h - j) * b), (a * c + b * f + c * h + d * i + (-a - e - h - j) * c), (a * d + b * g + c * i + d * j + (-a - e - h - j) * d)], [(b * a + e * b + f * c + g * d + (-a - e - h - j) * b), (b * b + e * e + f * f + g * g + (-a - e - h - j) * e), (b * c + e * f + f * h + g * i + (-a - e - h - j) * f), (b * d + e * g + f * i + g * j + (-a - e - h - j) * g)], [(c * a + f * b + h * c + i * d + (-a - e - h - j) * c), (c * b + f * e + h * f + i * g + (-a - e - h - j) * f), (c * c + f * f + h * h + i * i + (-a - e - h - j) * h), (c * d + f * g + h * i + i * j + (-a - e - h - j) * i)], [(d * a + g * b + i * c + j * d + (-a - e - h - j) * d), (d * b + g * e + i * f + j * g + (-a - e - h - j) * g), (d * c + g * f + i * h + j * i + (-a - e - h - j) * i), (d * d + g * g + i * i + j * j + (-a - e - h - j) * j)]] [(a * e - b * b + a * h - c * c + a * j - d * d + e * h - f * f + e * j - g * g + h * j - i * i), (-a - e - h - j), 1] = charGo [[a, b, c, d], [b, e, f, g], [c, f, h, i], [d, g, i, j]] 4 1 4 [[(-(e * (h * j - i * i) - f * (f * j - i * g) + g * (f * i - h * g)) - (- (e * (h * j - i * i) - f * (f * j - i * g) + g * (f * i - h * g)) - (a * (h * j - i * i) - c * (c * j - i * d) + d * (c * i - h * d)) - (a * (e * j - g * g) - b * (b * j - g * d) + d * (b * g - e * d)) - (a * (e * h - f * f) - b * (b * h - f * c) + c * (b * f - e * c)))), (b * (h * j - i * i) - c * (f * j - i * g) + d * (f * i - h * g)), -(b * (f * j - g * i) - c * (e * j - g * g) + d * (e * i - f * g)), (b * (f * i - g * h) - c * (e * i - g * f) + d * (e * h - f * f))], [(b * (h * j - i * i) - f * (c * j - i * d) + g * (c * i - h * d)), (-(a * (h * j - i * i) - c * (c * j - i * d) + d * (c * i - h * d)) - (- (e * (h * j - i * i) - f * (f * j - i * g) + g * (f * i - h * g)) - (a * (h * j - i * i) - c * (c * j - i * d) + d * (c * i - h * d)) - (a * (e * j - g * g) - b * (b * j - g * d) + d * (b * g - e * d)) - (a * (e * h - f * f) - b * (b * h - f * c) + c * (b * f - e * c)))), (a * (f * j - g * i) - c * (b * j - g * d) + d * (b * i - f * d)), -(a * (f * i - g * h) - c * (b * i - g * c) + d * (b * h - f * c))], [-(b * (f * j - i * g) - e * (c * j - i * d) + g * (c * g - f * d)), (a * (f * j - i * g) - b * (c * j - i * d) + d * (c * g - f * d)), (-(a * (e * j - g * g) - b * (b * j - g * d) + d * (b * g - e * d)) - (- (e * (h * j - i * i) - f * (f * j - i * g) + g * (f * i - h * g)) - (a * (h * j - i * i) - c * (c * j - i * d) + d * (c * i - h * d)) - (a * (e * j - g * g) - b * (b * j - g * d) + d * (b * g - e * d)) - (a * (e * h - f * f) - b * (b * h - f * c) + c * (b * f - e * c)))), (a * (e * i - g * f) - b * (b * i - g * c) + d * (b * f - e * c))], [(b * (f * i - h * g) - e * (c * i - h * d) + f * (c * g - f * d)), -(a * (f * i - h * g) - b * (c * i - h * d) + c * (c * g - f * d)), (a * (e * i - f * g) - b * (b * i - f * d) + c * (b * g - e * d)), (-(a * (e * h - f * f) - b * (b * h - f * c) + c * (b * f - e * c)) - (- (e * (h * j - i * i) - f * (f * j - i * g) + g * (f * i - h * g)) - (a * (h * j - i * i) - c * (c * j - i * d) + d * (c * i - h * d)) - (a * (e * j - g * g) - b * (b * j - g * d) + d * (b * g - e * d)) - (a * (e * h - f * f) - b * (b * h - f * c) + c * (b * f - e * c))))]] [(- (e * (h * j - i * i) - f * (f * j - i * g) + g * (f * i - h * g)) - (a * (h * j - i * i) - c * (c * j - i * d) + d * (c * i - h * d)) - (a * (e * j - g * g) - b * (b * j - g * d) + d * (b * g - e * d)) - (a * (e * h - f * f) - b * (b * h - f * c) + c * (b * f - e * c))), (a * e - b * b + a * h - c * c + a * j - d * d + e * h - f * f + e * j - g * g + h * j - i * i), (-a - e - h - j), 1] := by
  rw [charGo, show gR [(a * e - b * b + a * h - c * c + a * j - d * d + e * h - f * f + e * j - g * g + h * j - i * i), (-a - e - h - j), 1] 0 = (a * e - b * b + a * h - c * c + a * j - d * d + e * h - f * f + e * j - g * g + h * j - i * i) from rfl, diag4]
  congr 1 <;> simp [nextGo, rowGo, sumGo, gR, gM] <;> grind
theorem char4_4 (a b c d e f g h i j : Rat) : charGo [[a, b, c, d], [b, e, f, g], [c, f, h, i], [d, g, i, j]] 4 1 4 [[(-(e * (h * j - i * i) - f * (f * j - i * g) + g * (f * i - h * g)) - (- (e * (h * j - i * i) - f * (f * j - i * g) + g * (f * i - h * g)) - (a * (h * j - i * i) - c * (c * j - i * d) + d * (c * i - h * d)) - (a * (e * j - g * g) - b * (b * j - g * d) + d * (b * g - e * d)) - (a * (e * h - f * f) - b * (b * h - f * c) + c * (b * f - e * c)))), (b * (h * j - i * i) - c * (f * j - i * g) + d * (f * i - h * g)), -(b * (f * j - g * i) - c * (e * j - g * g) + d * (e * i - f * g)), (b * (f * i - g * h) - c * (e * i - g * f) + d * (e * h - f * f))], [(b * (h * j - i * i) - f * (c * j - i * d) + g * (c * i - h * d)), (-(a * (h * j - i * i) - c * (c * j - i * d) + d * (c * i - h * d)) - (- (e * (h * j - i * i) - f * (f * j - i * g) + g * (f * i - h * g)) - (a * (h * j - i * i) - c * (c * j - i * d) + d * (c * i - h * d)) - (a * (e * j - g * g) - b * (b * j - g * d) + d * (b * g - e * d)) - (a * (e * h - f * f) - b * (b * h - f * c) + c * (b * f - e * c)))), (a * (f * j - g * i) - c * (b * j - g * d) + d * (b * i - f * d)), -(a * (f * i - g * h) - c * (b * i - g * c) + d * (b * h - f * c))], [-(b * (f * j - i * g) - e * (c * j - i * d) + g * (c * g - f * d)), (a * (f * j - i * g) - b * (c * j - i * d) + d * (c * g - f * d)), (-(a * (e * j - g * g) - b * (b * j - g * d) + d * (b * g - e * d)) - (- (e * (h * j - i * i) - f * (f * j - i * g) + g * (f * i - h * g)) - (a * (h * j - i * i) - c * (c * j - i * d) + d * (c * i - h * d)) - (a * (e * j - g * g) - b * (b * j - g * d) + d * (b * g - e * d)) - (a * (e * h - f * f) - b * (b * h - f * c) + c * (b * f - e * c)))), (a * (e * i - g * f) - b * (b * i - g * c) + d * (b * f - e * c))], [(b * (f * i - h * g) - e * (c * i - h * d) + f * (c * g - f * d)), -(a * (f * i - h * g) - b * (c * i - h * d) + c * (c * g - f * d)), (a * (e * i - f * g) - b * (b * i - f * d) + c * (b * g - e * d)), (-(a * (e * h - f * f) - b * (b * h - f * c) + c * (b * f - e * c)) - (- (e * (h * j - i * i) - f * (f * j - i * g) + g * (f * i - h * g)) - (a * (h * j - i * i) - c * (c * j - i * d) + d * (c * i - h * d)) - (a * (e * j - g * g) - b * (b * j - g * d) + d * (b * g - e * d)) - (a * (e * h - f * f) - b * (b * h - f * c) + c * (b * f - e * c))))]] [(- (e * (h * j - i * i) - f * (f * j - i * g) + g * (f * i - h * g)) - (a * (h * j - i * i) - c * (c * j - i * d) + d * (c * i - h * d)) - (a * (e * j - g * g) - b * (b * j - g * d) + d * (b * g - e * d)) - (a * (e * h - f * f) - b * (b * h - f * c) + c * (b * f - e * c))), (a * e - b * b + a * h - c * c + a * j - d * d + e * h - f * f + e * j - g * g + h * j - i * i), (-a - e - h - j), 1] = [dtm 4 (fun x y => gR (gM [[a, b, c, d], [b, e, f, g], [c, f, h, i], [d, g, i, j]] x) y), (- (e * (h * j - i * i) - f * (f * j - i * g) + g * (f * i - h * g)) - (a * (h * j - i * i) - c * (c * j - i * d) + d * (c * i - h * d)) - (a * (e * j - g * g) - b * (b * j - g * d) + d * (b * g - e * d)) - (a * (e * h - f * f) - b * (b * h - f * c) + c * (b * f - e * c))), (a * e - b * b + a * h - c * c + a * j - d * d + e * h - f * f + e * j - g * g + h * j - i * i), (-a - e - h - j), 1] := by
  rw [charGo, charGo, show gR [(- (e * (h * j - i * i) - f * (f * j - i * g) + g * (f * i - h * g)) - (a * (h * j - i * i) - c * (c * j - i * d) + d * (c * i - h * d)) - (a * (e * j - g * g) - b * (b * j - g * d) + d * (b * g - e * d)) - (a * (e * h - f * f) - b * (b * h - f * c) + c * (b * f - e * c))), (a * e - b * b + a * h - c * c + a * j - d * d + e * h - f * f + e * j - g * g + h * j - i * i), (-a - e - h - j), 1] 0 = (- (e * (h * j - i * i) - f * (f * j - i * g) + g * (f * i - h * g)) - (a * (h * j - i * i) - c * (c * j - i * d) + d * (c * i - h * d)) - (a * (e * j - g * g) - b * (b * j - g * d) + d * (b * g - e * d)) - (a * (e * h - f * f) - b * (b * h - f * c) + c * (b * f - e * c))) from rfl, diag4]
  congr 1
  simp [nextGo, rowGo, sumGo, gR, gM, dtm]; grind
def pivGo (X : List (List Rat)) (c : Nat) : Nat → Nat → Nat
  | 0, p => p
  | f + 1, p => if gR (gM X p) c = 0 then pivGo X c f (p + 1) else p
def swapL (X : List (List Rat)) (p r : Nat) : List (List Rat) := (X.set p (gM X r)).set r (gM X p)
def divR (f : Rat) (row : List Rat) : List Rat := row.map (· / f)
def subR (g : Rat) (R row : List Rat) : List Rat := (List.range row.length).map fun k => gR row k - g * gR R k
def clrGo (r c : Nat) : Nat → Nat → List (List Rat) → List (List Rat)
  | 0, _, X => X
  | f + 1, i, X => clrGo r c f (i + 1) (if i = r ∨ gR (gM X i) c = 0 then X else X.set i (subR (gR (gM X i) c) (gM X r) (gM X i)))
def normX (X : List (List Rat)) (r c : Nat) : List (List Rat) := X.set r (divR (gR (gM X r) c) (gM X r))
def stepX (X : List (List Rat)) (r c p : Nat) : List (List Rat) := clrGo r c X.length 0 (normX (if p = r then X else swapL X p r) r c)
def elimGo : Nat → Nat → List Nat → List (List Rat) → Rat → List Nat × List (List Rat) × Rat
  | 0, _, P, X, d => (P, X, d)
  | f + 1, c, P, X, d =>
    if P.length < X.length then
      if pivGo X c (X.length - P.length) P.length = X.length then elimGo f (c + 1) P X d
      else elimGo f (c + 1) (P ++ [c]) (stepX X P.length c (pivGo X c (X.length - P.length) P.length)) ((if pivGo X c (X.length - P.length) P.length = P.length then d else 0 - d) * gR (gM X (pivGo X c (X.length - P.length) P.length)) c)
    else (P, X, d)
def Rec (n w : Nat) (X : List (List Rat)) : Prop := X.length = n ∧ ∀ i, i < n → (gM X i).length = w
def en (X : List (List Rat)) (i j : Nat) : Rat := gR (gM X i) j
theorem pivGo_le (X : List (List Rat)) (c : Nat) : ∀ f p, p ≤ pivGo X c f p ∧ pivGo X c f p ≤ p + f
  | 0, p => by simp [pivGo]
  | f + 1, p => by
    unfold pivGo
    split
    · have := pivGo_le X c f (p + 1); omega
    · omega
theorem pivGo_zero (X : List (List Rat)) (c : Nat) : ∀ f p i, p ≤ i → i < pivGo X c f p → en X i c = 0
  | 0, p, i, h1, h2 => by simp [pivGo] at h2; omega
  | f + 1, p, i, h1, h2 => by
    unfold pivGo at h2
    split at h2
    · rename_i h
      by_cases e : i = p
      · subst e; exact h
      · exact pivGo_zero X c f (p + 1) i (by omega) h2
    · omega
theorem pivGo_ne (X : List (List Rat)) (c : Nat) : ∀ f p, pivGo X c f p < p + f → en X (pivGo X c f p) c ≠ 0
  | 0, p, h => by simp [pivGo] at h
  | f + 1, p, h => by
    unfold pivGo at h ⊢
    split at h
    · rename_i h0
      rw [if_pos h0]
      exact pivGo_ne X c f (p + 1) (by omega)
    · rename_i h0
      rw [if_neg h0]
      exact h0
theorem rec_set {n w i : Nat} {X : List (List Rat)} {r : List Rat} (h : Rec n w X) (hi : i < n) (hr : r.length = w) : Rec n w (X.set i r) := by
  refine ⟨by simp [h.1], fun j hj => ?_⟩
  rw [gM_set (by rw [h.1]; exact hi)]
  split
  · exact hr
  · exact h.2 j hj
theorem rec_swap {n w p r : Nat} {X : List (List Rat)} (h : Rec n w X) (hp : p < n) (hr : r < n) : Rec n w (swapL X p r) :=
  rec_set (rec_set h hp (h.2 r hr)) hr (h.2 p hp)
theorem en_swap {n w p r : Nat} {X : List (List Rat)} (h : Rec n w X) (hp : p < n) (hr : r < n) (i j : Nat) : en (swapL X p r) i j = if i = r then en X p j else if i = p then en X r j else en X i j := by
  unfold en swapL
  rw [gM_set (by simp [h.1]; exact hr), gM_set (by rw [h.1]; exact hp)]
  by_cases e : r = i
  · rw [if_pos e, if_pos e.symm]
  · rw [if_neg e, if_neg (show ¬ i = r by omega)]
    by_cases e' : p = i
    · rw [if_pos e', if_pos e'.symm]
    · rw [if_neg e', if_neg (show ¬ i = p by omega)]
theorem gR_div (f : Rat) (row : List Rat) (j : Nat) : gR (divR f row) j = gR row j / f := by
  unfold gR divR
  rw [List.getD_eq_getElem?_getD, List.getD_eq_getElem?_getD, List.getElem?_map]
  cases row[j]? <;> simp <;> grind
theorem gR_sub (g : Rat) (R row : List Rat) {j : Nat} (hj : j < row.length) : gR (subR g R row) j = gR row j - g * gR R j := by
  unfold subR; exact gR_rng _ hj
theorem rec_norm {n w r c : Nat} {X : List (List Rat)} (h : Rec n w X) (hr : r < n) : Rec n w (normX X r c) :=
  rec_set h hr (by simp [divR, h.2 r hr])
theorem en_norm {n w r c : Nat} {X : List (List Rat)} (h : Rec n w X) (hr : r < n) (i j : Nat) : en (normX X r c) i j = if i = r then en X i j * (1 / en X r c) else en X i j := by
  unfold en normX
  rw [gM_set (by rw [h.1]; exact hr)]
  by_cases e : r = i
  · subst e
    rw [if_pos rfl, if_pos rfl, gR_div]
    grind
  · rw [if_neg e, if_neg (fun e' => e e'.symm)]
theorem rec_clr {n w r c : Nat} (hr : r < n) : ∀ f i X, i + f ≤ n → Rec n w X → Rec n w (clrGo r c f i X)
  | 0, i, X, _, h => h
  | f + 1, i, X, hf, h => by
    unfold clrGo
    refine rec_clr hr f (i + 1) _ (by omega) ?_
    split
    · exact h
    · exact rec_set h (by omega) (by simp [subR, h.2 i (by omega)])
theorem en_clr1 {n w r c i : Nat} {X : List (List Rat)} (h : Rec n w X) (hi : i < n) (k j : Nat) (hj : j < w) : en (if i = r ∨ gR (gM X i) c = 0 then X else X.set i (subR (gR (gM X i) c) (gM X r) (gM X i))) k j = if k = i ∧ i ≠ r then en X i j - en X i c * en X r j else en X k j := by
  by_cases e : i = r
  · rw [if_pos (.inl e), if_neg (by omega)]
  by_cases e0 : gR (gM X i) c = 0
  · rw [if_pos (.inr e0)]
    split
    · rename_i hk
      rw [hk.1]; unfold en; rw [e0]; grind
    · rfl
  · rw [if_neg (by simp [e, e0])]
    unfold en
    rw [gM_set (by rw [h.1]; exact hi)]
    by_cases ek : i = k
    · subst ek
      rw [if_pos rfl, if_pos ⟨rfl, e⟩, gR_sub _ _ _ (by rw [h.2 i hi]; exact hj)]
    · rw [if_neg ek, if_neg (by omega)]
theorem en_clr {n w r c : Nat} (hr : r < n) (hc : c < w) : ∀ f i X, i + f ≤ n → Rec n w X → ∀ k j, j < w → en (clrGo r c f i X) k j = if i ≤ k ∧ k < i + f ∧ k ≠ r then en X k j - en X k c * en X r j else en X k j
  | 0, i, X, _, h, k, j, hj => by rw [if_neg (by omega)]; rfl
  | f + 1, i, X, hf, h, k, j, hj => by
    unfold clrGo
    have hX : Rec n w (if i = r ∨ gR (gM X i) c = 0 then X else X.set i (subR (gR (gM X i) c) (gM X r) (gM X i))) := by
      split
      · exact h
      · exact rec_set h (by omega) (by simp [subR, h.2 i (by omega)])
    rw [en_clr hr hc f (i + 1) _ (by omega) hX k j hj, en_clr1 h (by omega) k j hj, en_clr1 h (by omega) k c hc, en_clr1 h (by omega) r j hj]
    rw [if_neg (show ¬ (r = i ∧ i ≠ r) by omega)]
    by_cases e1 : k = i
    · subst e1
      rw [if_neg (by omega)]
      by_cases e2 : k = r
      · rw [if_neg (by omega), if_neg (by omega)]
      · rw [if_pos ⟨rfl, e2⟩, if_pos ⟨by omega, by omega, e2⟩]
    · rw [if_neg (show ¬ (k = i ∧ i ≠ r) by omega), if_neg (show ¬ (k = i ∧ i ≠ r) by omega)]
      by_cases e2 : i + 1 ≤ k ∧ k < i + 1 + f ∧ k ≠ r
      · rw [if_pos e2, if_pos ⟨by omega, by omega, e2.2.2⟩]
      · rw [if_neg e2, if_neg (by omega)]
theorem dtm_clr {n r c : Nat} (hn : n ≤ 4) (hr : r < n) (hc : c < n) : ∀ f i X, i + f ≤ n → Rec n n X → dtm n (en (clrGo r c f i X)) = dtm n (en X)
  | 0, i, X, _, h => rfl
  | f + 1, i, X, hf, h => by
    unfold clrGo
    have hX : Rec n n (if i = r ∨ gR (gM X i) c = 0 then X else X.set i (subR (gR (gM X i) c) (gM X r) (gM X i))) := by
      split
      · exact h
      · exact rec_set h (by omega) (by simp [subR, h.2 i (by omega)])
    rw [dtm_clr hn hr hc f (i + 1) _ (by omega) hX]
    by_cases e : i = r
    · rw [if_pos (.inl e)]
    · rw [← dtm_sub hn hr (show i < n by omega) e (en X) (en X i c)]
      refine dtm_congr hn _ _ (fun k j hk hj => ?_)
      rw [en_clr1 h (by omega) k j hj]
      by_cases ek : k = i
      · rw [if_pos ⟨ek, e⟩, if_pos ek, ek]
      · rw [if_neg (by omega), if_neg ek]
theorem rec_step {n w r c p : Nat} {X : List (List Rat)} (h : Rec n w X) (hr : r < n) (hp : p < n) : Rec n w (stepX X r c p) := by
  unfold stepX
  rw [h.1]
  refine rec_clr hr n 0 _ (by omega) (rec_norm ?_ hr)
  split
  · exact h
  · exact rec_swap h hp hr
theorem dtm_step {n r c p : Nat} {X : List (List Rat)} (hn : n ≤ 4) (h : Rec n n X) (hr : r < n) (hp : p < n) (hc : c < n) (h0 : en X p c ≠ 0) (d : Rat) :
    ((if p = r then d else 0 - d) * en X p c) * dtm n (en (stepX X r c p)) = d * dtm n (en X) := by
  unfold stepX
  rw [h.1]
  have hY : Rec n n (if p = r then X else swapL X p r) := by
    split
    · exact h
    · exact rec_swap h hp hr
  have hYe : ∀ j, en (if p = r then X else swapL X p r) r j = en X p j := fun j => by
    split
    · rename_i e; rw [e]
    · rw [en_swap h hp hr, if_pos rfl]
  have hYd : dtm n (en (if p = r then X else swapL X p r)) = if p = r then dtm n (en X) else - dtm n (en X) := by
    split
    · rfl
    · rename_i e
      rw [← dtm_swap hn hr hp e]
      exact dtm_congr hn _ _ (fun i j _ _ => en_swap h hp hr i j)
  rw [dtm_clr hn hr hc n 0 _ (by omega) (rec_norm hY hr)]
  have hs : dtm n (en (normX (if p = r then X else swapL X p r) r c)) = (1 / en X p c) * dtm n (en (if p = r then X else swapL X p r)) := by
    rw [← dtm_scale hn hr]
    refine dtm_congr hn _ _ (fun i j _ _ => ?_)
    rw [en_norm hY hr, hYe]
  rw [hs, hYd]
  have e1 : en X p c * (1 / en X p c) = 1 := by grind
  generalize 1 / en X p c = q at *
  generalize en X p c = y at *
  generalize dtm n (en X) = D
  split
  · rw [show d * y * (q * D) = d * D * (y * q) by grind, e1]; grind
  · rw [show (0 - d) * y * (q * -D) = d * D * (y * q) by grind, e1]; grind
theorem unit_step {n r p : Nat} {X : List (List Rat)} (h : Rec n n X) (hr : r < n) (hp : p < n) (hrp : r ≤ p) (h0 : en X p r ≠ 0) (hu : ∀ i j, i < n → j < r → en X i j = if i = j then 1 else 0) :
    ∀ i j, i < n → j < r + 1 → en (stepX X r r p) i j = if i = j then 1 else 0 := by
  intro i j hi hj
  unfold stepX
  rw [h.1]
  have hY : Rec n n (if p = r then X else swapL X p r) := by
    split
    · exact h
    · exact rec_swap h hp hr
  have hYe : ∀ i j, en (if p = r then X else swapL X p r) i j = if i = r then en X p j else if i = p then en X r j else en X i j := fun i j => by
    split
    · rename_i e
      subst e
      split
      · rename_i e; rw [e]
      · rfl
    · rw [en_swap h hp hr]
  rw [en_clr hr (by omega) n 0 _ (by omega) (rec_norm hY hr) i j (by omega), en_norm hY hr i j, en_norm hY hr i r, en_norm hY hr r j, if_pos rfl, hYe i j, hYe i r, hYe r j, hYe r r, if_pos rfl, if_pos rfl]
  have e1 : en X p r * (1 / en X p r) = 1 := by grind
  generalize 1 / en X p r = q at *
  by_cases ei : i = r
  · rw [if_neg (by omega), if_pos ei, if_pos ei]
    by_cases ej : j = r
    · rw [ej, ei, if_pos rfl, e1]
    · rw [hu p j hp (by omega), if_neg (by omega), if_neg (by omega)]; grind
  · rw [if_pos ⟨by omega, by omega, ei⟩, if_neg ei, if_neg ei, if_neg ei, if_neg ei]
    by_cases ej : j = r
    · subst ej
      rw [if_neg ei]
      generalize (if i = p then en X j j else en X i j) = t
      rw [show t - t * (en X p j * q) = t - t * (en X p j * q) from rfl, e1]; grind
    · rw [hu p j hp (by omega), if_neg (show ¬ p = j by omega)]
      by_cases ep : i = p
      · rw [if_pos ep, hu r j hr (by omega), if_neg (show ¬ r = j by omega), if_neg (show ¬ i = j by omega)]; grind
      · rw [if_neg ep, hu i j hi (by omega)]; grind
theorem elim_len : ∀ f c P X d, (elimGo f c P X d).1.length ≤ P.length + f
  | 0, c, P, X, d => by simp [elimGo]
  | f + 1, c, P, X, d => by
    unfold elimGo
    split
    · split
      · have := elim_len f (c + 1) P X d; omega
      · have := elim_len f (c + 1) (P ++ [c]) (stepX X P.length c (pivGo X c (X.length - P.length) P.length)) ((if pivGo X c (X.length - P.length) P.length = P.length then d else 0 - d) * gR (gM X (pivGo X c (X.length - P.length) P.length)) c)
        rw [List.length_append] at this
        simp at this ⊢
        omega
    · simp
theorem elim_det {n : Nat} (hn : n ≤ 4) : ∀ f c P X d, c + f = n → P.length = c → Rec n n X → (∀ i j, i < n → j < c → en X i j = if i = j then 1 else 0) →
    d * dtm n (en X) = if (elimGo f c P X d).1.length < n then 0 else (elimGo f c P X d).2.2
  | 0, c, P, X, d, hc, hP, h, hu => by
    have e0 : elimGo 0 c P X d = (P, X, d) := rfl
    rw [e0, if_neg (show ¬ P.length < n by omega)]
    have : dtm n (en X) = 1 := by
      rw [← dtm_id hn]
      exact dtm_congr hn _ _ (fun i j hi hj => hu i j hi (by omega))
    rw [this]; grind
  | f + 1, c, P, X, d, hc, hP, h, hu => by
    unfold elimGo
    rw [if_pos (show P.length < X.length by rw [h.1]; omega)]
    obtain ⟨p1, p2⟩ := pivGo_le X c (X.length - P.length) P.length
    have p3 := pivGo_zero X c (X.length - P.length) P.length
    have p4 := pivGo_ne X c (X.length - P.length) P.length
    generalize pivGo X c (X.length - P.length) P.length = p at *
    have hX := h.1
    rw [hX] at p2 p4 ⊢
    subst hP
    by_cases e : p = n
    · rw [if_pos e]
      have hl := elim_len f (P.length + 1) P X d
      rw [if_pos (by omega)]
      rw [dtm_zero hn (show P.length < n by omega) (en X) hu (fun i h1 h2 => p3 i h1 (by omega))]
      grind
    · rw [if_neg e]
      have h0 := p4 (by omega)
      rw [← elim_det hn f (P.length + 1) (P ++ [P.length]) _ _ (by omega) (by simp) (rec_step h (by omega) (by omega)) (unit_step h (by omega) (by omega) (by omega) h0 hu)]
      exact (dtm_step hn h (by omega) (by omega) (by omega) h0 d).symm
end Go.Proofs.YtldokelpolbnnaaGreatDoor
end
section
set_option linter.unusedSectionVars false
set_option linter.unusedVariables false
namespace Go.Proofs.YtldokelpolbnnaaGreatDoor
open Go.RowKit
def trGo (A : List (List Rat)) : Nat → Nat → Rat → Rat
  | 0, _, s => s
  | f + 1, i, s => trGo A f (i + 1) (s + gR (gM A i) i)
def trL (A : List (List Rat)) : Rat := trGo A A.length 0 0
set_option maxHeartbeats 4000000 in
theorem refShape0 {u : PH} {v : Value} {A : List (List Rat)} (h : MatP u v (matT A)) (hs : Sq A) : Fn0 Tryz.prog 67 [v] u fun v' _ => v' = .tuple #[.int .i64 (A.length : Int), .int .i64 (A.length : Int), .int .i64 0] := by
  obtain ⟨a, c, rfl⟩ := h.opn
  rw [matT_length] at h ⊢
  have hle := hs.le
  refine Fn0.of Tryz.func67 (by kernel_rfl) (by kernel_rfl) ?_
  by_cases h0 : 0 < A.length
  · refine G.gtrT (A.length : Int) 0 (by kernel_rfl) (by omega) ?_
    obtain ⟨b1, o1, a1, c1, rfl, e1, e2⟩ := h.row (matT_at (List.getElem?_eq_getElem h0))
    rw [List.length_map, hs.len h0] at e1 e2
    refine G.addr b1 o1 A.length c 0 1 (by kernel_rfl) h0 ?_
    refine G.loadU none b1 (o1 + 0 * 1) _ (by kernel_rfl) (by kernel_rfl) e1 ?_
    clear e1 e2
    obtain ⟨a, ha⟩ : ∃ a : Option Addr, a = some ⟨b1, o1, none⟩ := ⟨_, rfl⟩
    rw [← ha] at h ⊢
    clear ha
    refine G.gtrF (A.length : Int) 12 (by kernel_rfl) (by omega) ?_
    refine G.loop (ι := Nat) (fun i => [(0, .v (.slice a A.length c)), (5, .v (.int .i64 (A.length : Int))), (21, .v (.int .i64 (A.length : Int))), (22, .v (.int .i64 (i : Int)))]) (fun _ => [])
      (fun i u' m' => i ≤ A.length ∧ m' = PH.mt) (fun i => A.length - i) 0 (by kernel_rfl) (fun _ => by kernel_rfl) ⟨by kernel_rfl, by kernel_rfl, by kernel_rfl⟩ ⟨by omega, rfl⟩ ?_
    rintro J1 i hJ1 u1 m1 l1 ⟨hi, rfl⟩
    by_cases hlt : i < A.length
    · refine G.lssT (i : Int) (A.length : Int) (by kernel_rfl) (by omega) ?_
      obtain ⟨b1, o1, a1, c1, rfl, e1, e2⟩ := (h.mono l1).row (matT_at (List.getElem?_eq_getElem hlt))
      rw [List.length_map, hs.len hlt] at e1 e2
      refine G.addr b1 o1 A.length c i 1 (by kernel_rfl) hlt ?_
      refine G.loadU none b1 (o1 + i * 1) _ (by kernel_rfl) (by kernel_rfl) e1 ?_
      refine G.gtrF (A.length : Int) 12 (by kernel_rfl) (by omega) ?_
      refine G.add (i : Int) 1 ((i + 1 : Nat) : Int) (by kernel_rfl) (by omega) (by omega) (by omega) ?_
      exact G.back (by kernel_rfl) (hJ1 (i + 1) _ _ _ ⟨by kernel_rfl, by kernel_rfl, by kernel_rfl⟩ l1 ⟨by omega, rfl⟩ (by omega))
    obtain rfl : i = A.length := by omega
    clear hlt
    refine G.lssF (A.length : Int) (A.length : Int) (by kernel_rfl) (by omega) ?_
    clear hJ1
    refine G.loop (ι := Nat) (fun i => [(0, .v (.slice a A.length c)), (5, .v (.int .i64 (A.length : Int))), (33, .v (.int .i64 (A.length : Int))), (34, .v (.int .i64 (i : Int)))]) (fun _ => [])
      (fun i u' m' => i ≤ A.length ∧ m' = PH.mt) (fun i => A.length - i) 0 (by kernel_rfl) (fun _ => by kernel_rfl) ⟨by kernel_rfl, by kernel_rfl, by kernel_rfl⟩ ⟨by omega, rfl⟩ ?_
    rintro J2 i hJ2 u2 m2 l2 ⟨hi, rfl⟩
    by_cases hlt : i < A.length
    · refine G.lssT (i : Int) (A.length : Int) (by kernel_rfl) (by omega) ?_
      obtain ⟨b1, o1, a1, c1, rfl, e1, e2⟩ := (h.mono (l1.trans l2)).row (matT_at (List.getElem?_eq_getElem hlt))
      rw [List.length_map, hs.len hlt] at e1 e2
      refine G.addr b1 o1 A.length c i 1 (by kernel_rfl) hlt ?_
      refine G.loadU none b1 (o1 + i * 1) _ (by kernel_rfl) (by kernel_rfl) e1 ?_
      refine G.neqF (A.length : Int) (A.length : Int) (by kernel_rfl) (by omega) ?_
      refine G.add (i : Int) 1 ((i + 1 : Nat) : Int) (by kernel_rfl) (by omega) (by omega) (by omega) ?_
      exact G.back (by kernel_rfl) (hJ2 (i + 1) _ _ _ ⟨by kernel_rfl, by kernel_rfl, by kernel_rfl⟩ l2 ⟨by omega, rfl⟩ (by omega))
    obtain rfl : i = A.length := by omega
    clear hlt
    refine G.lssF (A.length : Int) (A.length : Int) (by kernel_rfl) (by omega) ?_
    clear hJ2
    refine G.loop (ι := Nat) (fun i => [(0, .v (.slice a A.length c)), (5, .v (.int .i64 (A.length : Int))), (46, .v (.int .i64 (A.length : Int))), (47, .v (.int .i64 (i : Int)))]) (fun _ => [])
      (fun i u' m' => i ≤ A.length ∧ m' = PH.mt) (fun i => A.length - i) 0 (by kernel_rfl) (fun _ => by kernel_rfl) ⟨by kernel_rfl, by kernel_rfl, by kernel_rfl⟩ ⟨by omega, rfl⟩ ?_
    rintro J3 i hJ3 u3 m3 l3 ⟨hi, rfl⟩
    by_cases hlt : i < A.length
    · refine G.lssT (i : Int) (A.length : Int) (by kernel_rfl) (by omega) ?_
      obtain ⟨b1, o1, a1, c1, rfl, e1, e2⟩ := (h.mono ((l1.trans l2).trans l3)).row (matT_at (List.getElem?_eq_getElem hlt))
      rw [List.length_map, hs.len hlt] at e1 e2
      refine G.addr b1 o1 A.length c i 1 (by kernel_rfl) hlt ?_
      refine G.loadU none b1 (o1 + i * 1) _ (by kernel_rfl) (by kernel_rfl) e1 ?_
      refine G.loop (ι := Nat) (fun k => [(0, .v (.slice (some ⟨b1, o1, none⟩) A.length c)), (5, .v (.int .i64 (A.length : Int))), (46, .v (.int .i64 (A.length : Int))), (47, .v (.int .i64 (i : Int))), (8, .v (.int .i64 (i : Int))), (54, .v (.int .i64 (A.length : Int))), (55, .v (.int .i64 (k : Int)))]) (fun _ => [])
        (fun k u' m' => k ≤ A.length ∧ m' = PH.mt) (fun k => A.length - k) 0 (by kernel_rfl) (fun _ => by kernel_rfl) ⟨by kernel_rfl, by kernel_rfl, by kernel_rfl⟩ ⟨by omega, rfl⟩ ?_
      rintro J4 k hJ4 u4 m4 l4 ⟨hk, rfl⟩
      by_cases hlk : k < A.length
      · refine G.lssT (k : Int) (A.length : Int) (by kernel_rfl) (by omega) ?_
        have hki : k < A[i].length := by rw [hs.len hlt]; exact hlk
        obtain ⟨b2, o2, rfl, e3⟩ := ListP.at' (ListP.mono e2 l4) (j := k) (e := .string (mkS (ratT A[i][k]))) (by simp [strsV, List.getElem?_eq_getElem hki])
        refine G.addr b1 o1 A.length c i 1 (by kernel_rfl) hlt ?_
        refine G.loadU none b1 (o1 + i * 1) _ (by kernel_rfl) (by kernel_rfl) (e1.mono l4) ?_
        refine G.addr b2 o2 A.length c1 k 1 (by kernel_rfl) hlk ?_
        refine G.loadU none b2 (o2 + k * 1) _ (by kernel_rfl) (by kernel_rfl) e3 ?_
        refine G.call0 _ _ (by kernel_rfl) Tryz.call26 (refValid0 (hs.tx' hlt hki)) ?_
        rintro v5 u5 l5 rfl
        refine G.add (k : Int) 1 ((k + 1 : Nat) : Int) (by kernel_rfl) (by omega) (by omega) (by omega) ?_
        exact G.back (by kernel_rfl) (hJ4 (k + 1) _ _ _ ⟨by kernel_rfl, by kernel_rfl, by kernel_rfl⟩ (l4.trans l5) ⟨by omega, rfl⟩ (by omega))
      · refine G.lssF (k : Int) (A.length : Int) (by kernel_rfl) (by omega) ?_
        refine G.add (i : Int) 1 ((i + 1 : Nat) : Int) (by kernel_rfl) (by omega) (by omega) (by omega) ?_
        exact G.back (by kernel_rfl) (hJ3 (i + 1) _ _ _ ⟨by kernel_rfl, by kernel_rfl, by kernel_rfl⟩ (l3.trans l4) ⟨by omega, rfl⟩ (by omega))
    · refine G.lssF (i : Int) (A.length : Int) (by kernel_rfl) (by omega) ?_
      exact G.ret (.tuple #[.int .i64 (A.length : Int), .int .i64 (A.length : Int), .int .i64 0]) (by kernel_rfl) ⟨rfl, rfl⟩
  · refine G.gtrF (A.length : Int) 0 (by kernel_rfl) (by omega) ?_
    have hz : (A.length : Int) = 0 := by omega
    refine G.gtrF (A.length : Int) 12 (by kernel_rfl) (by omega) ?_
    refine G.loop (ι := Nat) (fun i => [(0, .v (.slice a A.length c)), (5, .v (.int .i64 0)), (21, .v (.int .i64 (A.length : Int))), (22, .v (.int .i64 (i : Int)))]) (fun _ => [])
      (fun i u' m' => i ≤ A.length ∧ m' = PH.mt) (fun i => A.length - i) 0 (by kernel_rfl) (fun _ => by kernel_rfl) ⟨by kernel_rfl, by kernel_rfl, by kernel_rfl⟩ ⟨by omega, rfl⟩ ?_
    rintro J1 i hJ1 u1 m1 l1 ⟨hi, rfl⟩
    by_cases hlt : i < A.length
    · refine G.lssT (i : Int) (A.length : Int) (by kernel_rfl) (by omega) ?_
      obtain ⟨b1, o1, a1, c1, rfl, e1, e2⟩ := (h.mono l1).row (matT_at (List.getElem?_eq_getElem hlt))
      rw [List.length_map, hs.len hlt] at e1 e2
      refine G.addr b1 o1 A.length c i 1 (by kernel_rfl) hlt ?_
      refine G.loadU none b1 (o1 + i * 1) _ (by kernel_rfl) (by kernel_rfl) e1 ?_
      refine G.gtrF (A.length : Int) 12 (by kernel_rfl) (by omega) ?_
      refine G.add (i : Int) 1 ((i + 1 : Nat) : Int) (by kernel_rfl) (by omega) (by omega) (by omega) ?_
      exact G.back (by kernel_rfl) (hJ1 (i + 1) _ _ _ ⟨by kernel_rfl, by kernel_rfl, by kernel_rfl⟩ l1 ⟨by omega, rfl⟩ (by omega))
    obtain rfl : i = A.length := by omega
    clear hlt
    refine G.lssF (A.length : Int) (A.length : Int) (by kernel_rfl) (by omega) ?_
    clear hJ1
    refine G.loop (ι := Nat) (fun i => [(0, .v (.slice a A.length c)), (5, .v (.int .i64 0)), (33, .v (.int .i64 (A.length : Int))), (34, .v (.int .i64 (i : Int)))]) (fun _ => [])
      (fun i u' m' => i ≤ A.length ∧ m' = PH.mt) (fun i => A.length - i) 0 (by kernel_rfl) (fun _ => by kernel_rfl) ⟨by kernel_rfl, by kernel_rfl, by kernel_rfl⟩ ⟨by omega, rfl⟩ ?_
    rintro J2 i hJ2 u2 m2 l2 ⟨hi, rfl⟩
    by_cases hlt : i < A.length
    · refine G.lssT (i : Int) (A.length : Int) (by kernel_rfl) (by omega) ?_
      obtain ⟨b1, o1, a1, c1, rfl, e1, e2⟩ := (h.mono (l1.trans l2)).row (matT_at (List.getElem?_eq_getElem hlt))
      rw [List.length_map, hs.len hlt] at e1 e2
      refine G.addr b1 o1 A.length c i 1 (by kernel_rfl) hlt ?_
      refine G.loadU none b1 (o1 + i * 1) _ (by kernel_rfl) (by kernel_rfl) e1 ?_
      refine G.neqF (A.length : Int) 0 (by kernel_rfl) (by omega) ?_
      refine G.add (i : Int) 1 ((i + 1 : Nat) : Int) (by kernel_rfl) (by omega) (by omega) (by omega) ?_
      exact G.back (by kernel_rfl) (hJ2 (i + 1) _ _ _ ⟨by kernel_rfl, by kernel_rfl, by kernel_rfl⟩ l2 ⟨by omega, rfl⟩ (by omega))
    obtain rfl : i = A.length := by omega
    clear hlt
    refine G.lssF (A.length : Int) (A.length : Int) (by kernel_rfl) (by omega) ?_
    clear hJ2
    refine G.loop (ι := Nat) (fun i => [(0, .v (.slice a A.length c)), (5, .v (.int .i64 0)), (46, .v (.int .i64 (A.length : Int))), (47, .v (.int .i64 (i : Int)))]) (fun _ => [])
      (fun i u' m' => i ≤ A.length ∧ m' = PH.mt) (fun i => A.length - i) 0 (by kernel_rfl) (fun _ => by kernel_rfl) ⟨by kernel_rfl, by kernel_rfl, by kernel_rfl⟩ ⟨by omega, rfl⟩ ?_
    rintro J3 i hJ3 u3 m3 l3 ⟨hi, rfl⟩
    by_cases hlt : i < A.length
    · refine G.lssT (i : Int) (A.length : Int) (by kernel_rfl) (by omega) ?_
      obtain ⟨b1, o1, a1, c1, rfl, e1, e2⟩ := (h.mono ((l1.trans l2).trans l3)).row (matT_at (List.getElem?_eq_getElem hlt))
      rw [List.length_map, hs.len hlt] at e1 e2
      refine G.addr b1 o1 A.length c i 1 (by kernel_rfl) hlt ?_
      refine G.loadU none b1 (o1 + i * 1) _ (by kernel_rfl) (by kernel_rfl) e1 ?_
      refine G.loop (ι := Nat) (fun k => [(0, .v (.slice (some ⟨b1, o1, none⟩) A.length c)), (5, .v (.int .i64 0)), (46, .v (.int .i64 (A.length : Int))), (47, .v (.int .i64 (i : Int))), (8, .v (.int .i64 (i : Int))), (54, .v (.int .i64 (A.length : Int))), (55, .v (.int .i64 (k : Int)))]) (fun _ => [])
        (fun k u' m' => k ≤ A.length ∧ m' = PH.mt) (fun k => A.length - k) 0 (by kernel_rfl) (fun _ => by kernel_rfl) ⟨by kernel_rfl, by kernel_rfl, by kernel_rfl⟩ ⟨by omega, rfl⟩ ?_
      rintro J4 k hJ4 u4 m4 l4 ⟨hk, rfl⟩
      by_cases hlk : k < A.length
      · refine G.lssT (k : Int) (A.length : Int) (by kernel_rfl) (by omega) ?_
        have hki : k < A[i].length := by rw [hs.len hlt]; exact hlk
        obtain ⟨b2, o2, rfl, e3⟩ := ListP.at' (ListP.mono e2 l4) (j := k) (e := .string (mkS (ratT A[i][k]))) (by simp [strsV, List.getElem?_eq_getElem hki])
        refine G.addr b1 o1 A.length c i 1 (by kernel_rfl) hlt ?_
        refine G.loadU none b1 (o1 + i * 1) _ (by kernel_rfl) (by kernel_rfl) (e1.mono l4) ?_
        refine G.addr b2 o2 A.length c1 k 1 (by kernel_rfl) hlk ?_
        refine G.loadU none b2 (o2 + k * 1) _ (by kernel_rfl) (by kernel_rfl) e3 ?_
        refine G.call0 _ _ (by kernel_rfl) Tryz.call26 (refValid0 (hs.tx' hlt hki)) ?_
        rintro v5 u5 l5 rfl
        refine G.add (k : Int) 1 ((k + 1 : Nat) : Int) (by kernel_rfl) (by omega) (by omega) (by omega) ?_
        exact G.back (by kernel_rfl) (hJ4 (k + 1) _ _ _ ⟨by kernel_rfl, by kernel_rfl, by kernel_rfl⟩ (l4.trans l5) ⟨by omega, rfl⟩ (by omega))
      · refine G.lssF (k : Int) (A.length : Int) (by kernel_rfl) (by omega) ?_
        refine G.add (i : Int) 1 ((i + 1 : Nat) : Int) (by kernel_rfl) (by omega) (by omega) (by omega) ?_
        exact G.back (by kernel_rfl) (hJ3 (i + 1) _ _ _ ⟨by kernel_rfl, by kernel_rfl, by kernel_rfl⟩ (l3.trans l4) ⟨by omega, rfl⟩ (by omega))
    · refine G.lssF (i : Int) (A.length : Int) (by kernel_rfl) (by omega) ?_
      exact G.ret (.tuple #[.int .i64 (A.length : Int), .int .i64 0, .int .i64 0]) (by kernel_rfl) ⟨rfl, by rw [hz]⟩
set_option maxHeartbeats 4000000 in
theorem trace0 {u : PH} {v : Value} {A : List (List Rat)} (ht : TabU u) (h : MatP u v (matT A)) (hs : Sq A) (hz : ∀ r ∈ A, ∀ q ∈ r, Sz q 100) (htx : Tx (trL A)) : Fn0 Tryz.prog 34 [v] u fun v' _ => v' = .tuple #[.string (mkS (ratT (trL A))), .int .i64 0] := by
  obtain ⟨a, c, rfl⟩ := h.opn
  rw [matT_length] at h ⊢
  have hle := hs.le
  refine Fn0.of Tryz.func34 (by kernel_rfl) (by kernel_rfl) ?_
  refine G.call0 _ _ (by kernel_rfl) Tryz.call74 (shapeSq h hs) ?_
  rintro v1 u1 l1 rfl
  refine G.neqF 0 0 (by kernel_rfl) (by omega) ?_
  refine G.neqF (A.length : Int) (A.length : Int) (by kernel_rfl) (by omega) ?_
  refine G.call0 _ _ (by kernel_rfl) Tryz.call60 (fracOf0 (z := 0) (by omega) (by omega)) ?_
  intro v2 u2 l2 k2
  rw [show ((0 : Int) : Rat) = 0 from by decide] at k2
  obtain ⟨f2, rfl⟩ := k2.opF
  refine G.loop (ι := Nat × F4 × Rat) (fun i => [(0, .v (.slice a A.length c)), (7, .p 6001 0), (25, .v (.int .i64 (A.length : Int))), (26, .v (.int .i64 (i.1 : Int)))]) (fun i => [(6001, ⟨90, fc i.2.1⟩)])
    (fun i u' m' => i.1 ≤ A.length ∧ trGo A (A.length - i.1) i.1 i.2.2 = trL A ∧ Sz i.2.2 (1 + 101 * i.1) ∧ FracP u' (fv i.2.1) i.2.2 ∧ m' = PH.mt) (fun i => A.length - i.1) (0, f2, 0) (by kernel_rfl) (fun _ => by kernel_rfl) ⟨by kernel_rfl, by kernel_rfl, by kernel_rfl⟩ ⟨Nat.zero_le _, rfl, sz_zero.mono (by omega), k2, rfl⟩ ?_
  rintro J ⟨i, f, s⟩ hJ u3 m3 l3 ⟨hi, htr, hsz, hf, rfl⟩
  simp only at hi htr hsz hf hJ
  by_cases hlt : i < A.length
  · refine G.lssT (i : Int) (A.length : Int) (by kernel_rfl) (by omega) ?_
    have hii : i < A[i].length := by rw [hs.len hlt]; exact hlt
    have hq : Sz A[i][i] 100 := hz _ (List.getElem_mem hlt) _ (List.getElem_mem hii)
    obtain ⟨b1, o1, b2, o2, c2, rfl, e1, e2⟩ := (h.mono (l1.trans (l2.trans l3))).cell hlt hii
    refine G.addr b1 o1 A.length c i 1 (by kernel_rfl) hlt ?_
    refine G.loadU none b1 (o1 + i * 1) _ (by kernel_rfl) (by kernel_rfl) e1 ?_
    refine G.addr b2 o2 A[i].length c2 i 1 (by kernel_rfl) hii ?_
    refine G.loadU none b2 (o2 + i * 1) _ (by kernel_rfl) (by kernel_rfl) e2 ?_
    refine G.call0 _ _ (by kernel_rfl) Tryz.call50 (fracRead0 (hs.tx' hlt hii)) ?_
    intro v4 u4 l4 k4
    obtain ⟨f4, rfl⟩ := k4.opF
    refine G.call0 _ _ (by kernel_rfl) Tryz.call59 (fracAdd0 (hf.mono l4) k4 (hsz.mono (by omega)) (hq.mono (by omega))) ?_
    intro v5 u5 l5 k5
    obtain ⟨f5, rfl⟩ := k5.opF
    refine G.add (i : Int) 1 ((i + 1 : Nat) : Int) (by kernel_rfl) (by omega) (by omega) (by omega) ?_
    refine G.back (by kernel_rfl) (hJ (i + 1, f5, s + A[i][i]) _ _ _ ⟨by kernel_rfl, by kernel_rfl, by kernel_rfl⟩ ((l3.trans l4).trans l5) ⟨by dsimp only; omega, ?_, (sz_add2 hsz hq).mono (by dsimp only; omega), k5, rfl⟩ (by dsimp only; omega))
    dsimp only
    rw [← htr, show A.length - i = (A.length - (i + 1)) + 1 by omega, trGo, gM_at hlt, gR_at hii]
  · obtain rfl : i = A.length := by omega
    refine G.lssF (A.length : Int) (A.length : Int) (by kernel_rfl) (by omega) ?_
    rw [Nat.sub_self, trGo] at htr
    subst htr
    refine G.call0 _ _ (by kernel_rfl) Tryz.call75 (fracFits0 (ht.mono (l1.trans (l2.trans l3))) hf htx) ?_
    rintro v4 u4 l4 rfl
    exact G.ret (.tuple #[.string (mkS (ratT (trL A))), .int .i64 0]) (by kernel_rfl) ⟨rfl, rfl⟩
end Go.Proofs.YtldokelpolbnnaaGreatDoor
end
section
set_option linter.unusedSectionVars false
set_option linter.unusedVariables false
namespace Go.Proofs.YtldokelpolbnnaaGreatDoor
open Go.RowKit
structure B3 where
  b : Bool
  a : Option Addr
  n : Nat
  c : Nat
def bv (f : B3) : Value := .agg #[.bool f.b, .slice f.a f.n f.c]
def bc (f : B3) : List SV := [.v (.bool f.b), .v (.slice f.a f.n f.c)]
theorem BigP.opB {u : PH} {v : Value} {z : Int} (h : BigP u v z) : ∃ f, v = bv f := by
  obtain ⟨b, a, n, c, rfl, _⟩ := h.opn
  exact ⟨⟨b, a, n, c⟩, rfl⟩
theorem lcm12 {q d : Nat} (hq : q ∣ 12) (hd : d ∣ 12) : q * (d / Nat.gcd q d) ∣ 12 := by
  rw [← Nat.mul_div_assoc _ (Nat.gcd_dvd_right _ _)]
  exact Nat.lcm_dvd hq hd
theorem le12 {q : Nat} (h : q ∣ 12) : 0 < q ∧ q ≤ 12 := ⟨Nat.pos_of_dvd_of_pos h (by omega), Nat.le_of_dvd (by omega) h⟩
theorem nl1 {n : Nat} (h : n < 1000000000) : nl n ≤ 1 := nl_le_of_lt (by simpa using h)
theorem nlN {n : Nat} (h : n < 1000000000) : nl ((n : Int)).natAbs ≤ 1 := by rw [Int.natAbs_natCast]; exact nl1 h
theorem dig5 {n : Nat} (h : n < 100000) : Lib.nDigits n ≤ 5 := dig_of_lt (k := 5) (by omega) (by omega)
set_option maxHeartbeats 8000000 in
theorem refHeavy0 {u : PH} {v : Value} {A : List (List Rat)} {n : Nat} (h : MatP u v (matT A)) (hs : Sq A) (hT : ∀ r ∈ A, ∀ q ∈ r, Tw q) (hn : n ≤ 12) : Fn0 Tryz.prog 72 [v, .int .i64 (n : Int)] u fun v' _ => v' = .bool false := by
  obtain ⟨a, c, rfl⟩ := h.opn
  rw [matT_length] at h ⊢
  have hle := hs.le
  refine Fn0.of Tryz.func72 (by kernel_rfl) (by kernel_rfl) ?_
  refine G.call0 _ _ (by kernel_rfl) Tryz.call38 (bigOf0 (n := 1) (by omega) (by omega)) ?_
  intro v1 u1 l1 k1
  obtain ⟨f1, rfl⟩ := k1.opB
  refine G.loop (ι := Nat × B3 × Nat) (fun i => [(0, .v (.slice a A.length c)), (1, .v (.int .i64 (n : Int))), (5, .p 1001 0), (18, .v (.int .i64 (A.length : Int))), (19, .v (.int .i64 (i.1 : Int)))]) (fun i => [(1001, ⟨42, bc i.2.1⟩)])
    (fun i u' m' => i.1 ≤ A.length ∧ i.2.2 ∣ 12 ∧ BigP u' (bv i.2.1) (i.2.2 : Int) ∧ m' = PH.mt) (fun i => A.length - i.1) (0, f1, 1) (by kernel_rfl) (fun _ => by kernel_rfl) ⟨by kernel_rfl, by kernel_rfl, by kernel_rfl⟩ ⟨Nat.zero_le _, Nat.one_dvd _, k1, rfl⟩ ?_
  rintro J ⟨i, f, q⟩ hJ u2 m2 l2 ⟨hi, hq, hf, rfl⟩
  simp only at hi hq hf hJ
  by_cases hlt : i < A.length
  · refine G.lssT (i : Int) (A.length : Int) (by kernel_rfl) (by omega) ?_
    obtain ⟨b1, o1, a1, c1, rfl, e1, e2⟩ := (h.mono (l1.trans l2)).row (matT_at (List.getElem?_eq_getElem hlt))
    rw [List.length_map, hs.len hlt] at e1 e2
    refine G.addr b1 o1 A.length c i 1 (by kernel_rfl) hlt ?_
    refine G.loadU none b1 (o1 + i * 1) _ (by kernel_rfl) (by kernel_rfl) e1 ?_
    refine G.loop (ι := Nat × B3 × Nat) (fun k => [(0, .v (.slice (some ⟨b1, o1, none⟩) A.length c)), (1, .v (.int .i64 (n : Int))), (5, .p 1001 0), (18, .v (.int .i64 (A.length : Int))), (19, .v (.int .i64 (i : Int))), (6, .v (.int .i64 (i : Int))), (26, .v (.int .i64 (A.length : Int))), (27, .v (.int .i64 (k.1 : Int)))]) (fun k => [(1001, ⟨42, bc k.2.1⟩)])
      (fun k u' m' => k.1 ≤ A.length ∧ k.2.2 ∣ 12 ∧ BigP u' (bv k.2.1) (k.2.2 : Int) ∧ m' = PH.mt) (fun k => A.length - k.1) (0, f, q) (by kernel_rfl) (fun _ => by kernel_rfl) ⟨by kernel_rfl, by kernel_rfl, by kernel_rfl⟩ ⟨Nat.zero_le _, hq, hf, rfl⟩ ?_
    clear hf hq
    rintro J2 ⟨k, f, q⟩ hJ2 u3 m3 l3 ⟨hk, hq, hf, rfl⟩
    simp only at hk hq hf hJ2
    by_cases hlk : k < A.length
    · refine G.lssT (k : Int) (A.length : Int) (by kernel_rfl) (by omega) ?_
      have hki : k < A[i].length := by rw [hs.len hlt]; exact hlk
      have htw : Tw A[i][k] := hT _ (List.getElem_mem hlt) _ (List.getElem_mem hki)
      obtain ⟨b2, o2, rfl, e3⟩ := ListP.at' (ListP.mono e2 l3) (j := k) (e := .string (mkS (ratT A[i][k]))) (by simp [strsV, List.getElem?_eq_getElem hki])
      refine G.addr b1 o1 A.length c i 1 (by kernel_rfl) hlt ?_
      refine G.loadU none b1 (o1 + i * 1) _ (by kernel_rfl) (by kernel_rfl) (e1.mono l3) ?_
      refine G.addr b2 o2 A.length c1 k 1 (by kernel_rfl) hlk ?_
      refine G.loadU none b2 (o2 + k * 1) _ (by kernel_rfl) (by kernel_rfl) e3 ?_
      refine G.call0 _ _ (by kernel_rfl) Tryz.call19 (refReadT htw.tx) ?_
      intro v4 u4 l4 k4
      obtain ⟨b4, a4, n4, c4, a4', n4', c4', rfl, _, _, k4d⟩ := k4.opn
      have hd := htw.den
      generalize A[i][k] = x at *
      obtain ⟨hd0, hd12⟩ := le12 hd
      obtain ⟨hq0, hq12⟩ := le12 hq
      have hg0 : 0 < Nat.gcd q x.den := Nat.gcd_pos_of_pos_left _ hq0
      refine G.call0 _ _ (by kernel_rfl) Tryz.call76 (bigGcd0 (hf.mono l4) k4d (Nat.le_trans (nl1 (by omega)) (by omega)) (Nat.le_trans (nl1 (by omega)) (by omega))) ?_
      intro v5 u5 l5 k5
      simp only [Int.natAbs_natCast] at k5
      obtain ⟨f5, rfl⟩ := k5.opB
      have hgle : Nat.gcd q x.den ≤ q := Nat.gcd_le_left _ hq0
      refine G.call0 _ _ (by kernel_rfl) Tryz.call77 (bigQuo0 (k4d.mono l5) k5 (Nat.le_trans (nl1 (by omega)) (by omega)) (Nat.le_trans (nl1 (by omega)) (by omega)) (by omega)) ?_
      rintro v6 u6 l6 ⟨x6, y6, rfl, k6, k6'⟩
      obtain ⟨f6, rfl⟩ := k6.opB
      obtain ⟨f6', rfl⟩ := k6'.opB
      have e6 : ((x.den : Int)).tdiv ((Nat.gcd q x.den : Nat) : Int) = ((x.den / Nat.gcd q x.den : Nat) : Int) := by
        rw [Int.tdiv_eq_ediv_of_nonneg (by omega)]; rfl
      rw [e6] at k6
      have hl12 := lcm12 hq hd
      have hdd : x.den / Nat.gcd q x.den ≤ x.den := Nat.div_le_self _ _
      refine G.call0 _ _ (by kernel_rfl) Tryz.call52 (bigMul0 (hf.mono (((l4.trans l5).trans l6))) k6 (Nat.le_trans (nl1 (by omega)) (by omega)) (Nat.le_trans (nlN (by omega)) (by omega))) ?_
      intro v7 u7 l7 k7
      obtain ⟨f7, rfl⟩ := k7.opB
      rw [← Int.natCast_mul] at k7
      generalize q * (x.den / Nat.gcd q x.den) = r at *
      obtain ⟨hr0, hr12⟩ := le12 hl12
      refine G.call0 _ _ (by kernel_rfl) Tryz.call115 (bigDigits0 k7 (Nat.le_trans (nl1 (by omega)) (by omega))) ?_
      rintro v8 u8 l8 rfl
      have hdg : Lib.nDigits (r : Int).natAbs ≤ 5 := dig5 (by omega)
      generalize Lib.nDigits (r : Int).natAbs = D at *
      have hnD : n * D ≤ 12 * 5 := Nat.mul_le_mul hn hdg
      refine G.mul (n : Int) (D : Int) ((n * D : Nat) : Int) (by kernel_rfl) (by rw [Int.natCast_mul]) (by omega) (by omega) ?_
      refine G.gtrF ((n * D : Nat) : Int) 600 (by kernel_rfl) (by omega) ?_
      refine G.add (k : Int) 1 ((k + 1 : Nat) : Int) (by kernel_rfl) (by omega) (by omega) (by omega) ?_
      exact G.back (by kernel_rfl) (hJ2 (k + 1, f7, r) _ _ _ ⟨by kernel_rfl, by kernel_rfl, by kernel_rfl⟩ (((((l3.trans l4).trans l5).trans l6).trans l7).trans l8) ⟨by dsimp only; omega, hl12, k7.mono l8, rfl⟩ (by dsimp only; omega))
    · refine G.lssF (k : Int) (A.length : Int) (by kernel_rfl) (by omega) ?_
      refine G.add (i : Int) 1 ((i + 1 : Nat) : Int) (by kernel_rfl) (by omega) (by omega) (by omega) ?_
      exact G.back (by kernel_rfl) (hJ (i + 1, f, q) _ _ _ ⟨by kernel_rfl, by kernel_rfl, by kernel_rfl⟩ (l2.trans l3) ⟨by dsimp only; omega, hq, hf, rfl⟩ (by dsimp only; omega))
  · refine G.lssF (i : Int) (A.length : Int) (by kernel_rfl) (by omega) ?_
    clear hJ hlt hi
    refine G.loop (ι := Nat) (fun i => [(0, .v (.slice a A.length c)), (1, .v (.int .i64 (n : Int))), (5, .p 1001 0), (58, .v (.int .i64 (A.length : Int))), (59, .v (.int .i64 (i : Int)))]) (fun i => [(1001, ⟨42, bc f⟩)])
      (fun i u' m' => i ≤ A.length ∧ m' = PH.mt) (fun i => A.length - i) 0 (by kernel_rfl) (fun _ => by kernel_rfl) ⟨by kernel_rfl, by kernel_rfl, by kernel_rfl⟩ ⟨Nat.zero_le _, rfl⟩ ?_
    rintro J i hJ u3 m3 l3 ⟨hi, rfl⟩
    by_cases hlt : i < A.length
    · refine G.lssT (i : Int) (A.length : Int) (by kernel_rfl) (by omega) ?_
      obtain ⟨b1, o1, a1, c1, rfl, e1, e2⟩ := (h.mono ((l1.trans l2).trans l3)).row (matT_at (List.getElem?_eq_getElem hlt))
      rw [List.length_map, hs.len hlt] at e1 e2
      refine G.addr b1 o1 A.length c i 1 (by kernel_rfl) hlt ?_
      refine G.loadU none b1 (o1 + i * 1) _ (by kernel_rfl) (by kernel_rfl) e1 ?_
      refine G.loop (ι := Nat) (fun k => [(0, .v (.slice (some ⟨b1, o1, none⟩) A.length c)), (1, .v (.int .i64 (n : Int))), (5, .p 1001 0), (58, .v (.int .i64 (A.length : Int))), (59, .v (.int .i64 (i : Int))), (11, .v (.int .i64 (i : Int))), (66, .v (.int .i64 (A.length : Int))), (67, .v (.int .i64 (k : Int)))]) (fun k => [(1001, ⟨42, bc f⟩)])
        (fun k u' m' => k ≤ A.length ∧ m' = PH.mt) (fun k => A.length - k) 0 (by kernel_rfl) (fun _ => by kernel_rfl) ⟨by kernel_rfl, by kernel_rfl, by kernel_rfl⟩ ⟨Nat.zero_le _, rfl⟩ ?_
      rintro J2 k hJ2 u4 m4 l4 ⟨hk, rfl⟩
      by_cases hlk : k < A.length
      · refine G.lssT (k : Int) (A.length : Int) (by kernel_rfl) (by omega) ?_
        have hki : k < A[i].length := by rw [hs.len hlt]; exact hlk
        have htw : Tw A[i][k] := hT _ (List.getElem_mem hlt) _ (List.getElem_mem hki)
        obtain ⟨b2, o2, rfl, e3⟩ := ListP.at' (ListP.mono e2 l4) (j := k) (e := .string (mkS (ratT A[i][k]))) (by simp [strsV, List.getElem?_eq_getElem hki])
        refine G.addr b1 o1 A.length c i 1 (by kernel_rfl) hlt ?_
        refine G.loadU none b1 (o1 + i * 1) _ (by kernel_rfl) (by kernel_rfl) (e1.mono l4) ?_
        refine G.addr b2 o2 A.length c1 k 1 (by kernel_rfl) hlk ?_
        refine G.loadU none b2 (o2 + k * 1) _ (by kernel_rfl) (by kernel_rfl) e3 ?_
        refine G.call0 _ _ (by kernel_rfl) Tryz.call19 (refReadT htw.tx) ?_
        intro v5 u5 l5 k5
        obtain ⟨b5, a5, n5, c5, a5', n5', c5', rfl, _, k5n, k5d⟩ := k5.opn
        have hd := htw.den
        have hnum := htw.num
        generalize A[i][k] = x at *
        obtain ⟨hd0, hd12⟩ := le12 hd
        obtain ⟨hq0, hq12⟩ := le12 hq
        have hfq := hf.mono ((l3.trans l4).trans l5)
        refine G.call0 _ _ (by kernel_rfl) Tryz.call77 (bigQuo0 hfq k5d (Nat.le_trans (nl1 (by omega)) (by omega)) (Nat.le_trans (nl1 (by omega)) (by omega)) (by omega)) ?_
        rintro v6 u6 l6 ⟨x6, y6, rfl, k6, k6'⟩
        obtain ⟨f6, rfl⟩ := k6.opB
        obtain ⟨f6', rfl⟩ := k6'.opB
        have e6 : ((q : Int)).tdiv (x.den : Int) = ((q / x.den : Nat) : Int) := by
          rw [Int.tdiv_eq_ediv_of_nonneg (by omega)]; rfl
        rw [e6] at k6
        have hdd : q / x.den ≤ q := Nat.div_le_self _ _
        refine G.call0 _ _ (by kernel_rfl) Tryz.call52 (bigMul0 (k5n.mono l6) k6 (Nat.le_trans (nl1 (by omega)) (by omega)) (Nat.le_trans (nlN (by omega)) (by omega))) ?_
        intro v7 u7 l7 k7
        obtain ⟨f7, rfl⟩ := k7.opB
        have hmul : (x.num * ((q / x.den : Nat) : Int)).natAbs ≤ 1000 * 12 := by
          rw [Int.natAbs_mul, Int.natAbs_natCast]
          exact Nat.mul_le_mul hnum (by omega)
        refine G.call0 _ _ (by kernel_rfl) Tryz.call115 (bigDigits0 k7 (Nat.le_trans (nl1 (by omega)) (by omega))) ?_
        rintro v8 u8 l8 rfl
        have hdg : Lib.nDigits (x.num * ((q / x.den : Nat) : Int)).natAbs ≤ 5 := dig5 (by omega)
        generalize Lib.nDigits (x.num * ((q / x.den : Nat) : Int)).natAbs = D at *
        have hnD : n * D ≤ 12 * 5 := Nat.mul_le_mul hn hdg
        refine G.mul (n : Int) (D : Int) ((n * D : Nat) : Int) (by kernel_rfl) (by rw [Int.natCast_mul]) (by omega) (by omega) ?_
        refine G.gtrF ((n * D : Nat) : Int) 600 (by kernel_rfl) (by omega) ?_
        refine G.add (k : Int) 1 ((k + 1 : Nat) : Int) (by kernel_rfl) (by omega) (by omega) (by omega) ?_
        exact G.back (by kernel_rfl) (hJ2 (k + 1) _ _ _ ⟨by kernel_rfl, by kernel_rfl, by kernel_rfl⟩ ((((l4.trans l5).trans l6).trans l7).trans l8) ⟨by omega, rfl⟩ (by omega))
      · refine G.lssF (k : Int) (A.length : Int) (by kernel_rfl) (by omega) ?_
        refine G.add (i : Int) 1 ((i + 1 : Nat) : Int) (by kernel_rfl) (by omega) (by omega) (by omega) ?_
        exact G.back (by kernel_rfl) (hJ (i + 1) _ _ _ ⟨by kernel_rfl, by kernel_rfl, by kernel_rfl⟩ (l3.trans l4) ⟨by omega, rfl⟩ (by omega))
    · refine G.lssF (i : Int) (A.length : Int) (by kernel_rfl) (by omega) ?_
      refine G.gtrF (n : Int) 600 (by kernel_rfl) (by omega) ?_
      exact G.ret (.bool false) (by kernel_rfl) ⟨rfl, rfl⟩
end Go.Proofs.YtldokelpolbnnaaGreatDoor
end
section
set_option linter.unusedSectionVars false
set_option linter.unusedVariables false
namespace Go.Proofs.YtldokelpolbnnaaGreatDoor
open Go.RowKit
structure Q4 where
  b : Bool
  a : Option Addr
  n : Nat
  c : Nat
  a' : Option Addr
  n' : Nat
  c' : Nat
def qv (f : Q4) : Value := .agg #[.bool f.b, .slice f.a f.n f.c, .bool false, .slice f.a' f.n' f.c']
def qc (f : Q4) : List SV := [.v (.bool f.b), .v (.slice f.a f.n f.c), .v (.bool false), .v (.slice f.a' f.n' f.c')]
theorem QP.opQ {u : PH} {v : Value} {q : Rat} (h : QP u v q) : ∃ f, v = qv f := by
  obtain ⟨b, a, n, c, a', n', c', rfl, _⟩ := h.opn
  exact ⟨⟨b, a, n, c, a', n', c'⟩, rfl⟩
end Go.Proofs.YtldokelpolbnnaaGreatDoor
end
section
set_option linter.unusedSectionVars false
set_option linter.unusedVariables false
namespace Go.Proofs.YtldokelpolbnnaaGreatDoor
open Go.RowKit
def zQ : Value := .agg #[.bool false, .slice none 0 0, .bool false, .slice none 0 0]
theorem qv_ok (f : Q4) : ElsOK 4 [qv f] := by
  intro x hx
  simp at hx; subst hx
  exact ⟨rfl, fun y hy => by simp [qv, Value.cells] at hy; rcases hy with rfl | rfl | rfl | rfl <;> rfl⟩
def qRow (r : Value × List Value) : Arr := ⟨r.1, 44, 4, r.2⟩
def oQ (v : Value) (rows : List (Value × List Value)) : Arr := ⟨v, 112, 1, rows.map (·.1)⟩
theorem qRow_at {r : Value × List Value} {m0 m : PH} : (qRow r).At m0 m = ArrAt m0 m r.1 44 4 r.2 := rfl
theorem oQ_at {v : Value} {rows : List (Value × List Value)} {m0 m : PH} : (oQ v rows).At m0 m = ArrAt m0 m v 112 1 (rows.map (·.1)) := rfl
def QAt (u : PH) (rows : List (Value × List Value)) (M : List (List Rat)) : Prop := rows.length = M.length ∧ ∀ (i : Nat) (r : Value × List Value), rows[i]? = some r → AtP QP u r.2 (gM M i)
theorem QAt.mono {u u' : PH} {rows : List (Value × List Value)} {M : List (List Rat)} (h : QAt u rows M) (hl : PH.le u u') : QAt u' rows M := ⟨h.1, fun i r hr => (h.2 i r hr).mono (fun _ _ k => k.mono hl)⟩
theorem QAt.set {u : PH} {rows : List (Value × List Value)} {M : List (List Rat)} {i : Nat} {r : Value × List Value} {q : List Rat} (h : QAt u rows M) (hi : i < rows.length) (hr : AtP QP u r.2 q) : QAt u (rows.set i r) (M.set i q) := by
  refine ⟨by simp [h.1], fun j r' hj => ?_⟩
  rw [gM_set (by rw [← h.1]; exact hi)]
  rw [List.getElem?_set] at hj
  by_cases e : i = j
  · subst e
    rw [if_pos rfl, if_pos hi] at hj
    simp only [Option.some.injEq] at hj
    rw [if_pos rfl, ← hj]; exact hr
  · rw [if_neg e] at hj ⊢
    exact h.2 j r' hj
theorem QAt.snoc {u : PH} {rows : List (Value × List Value)} {M : List (List Rat)} {r : Value × List Value} {q : List Rat} (h : QAt u rows M) (hr : AtP QP u r.2 q) : QAt u (rows ++ [r]) (M ++ [q]) := by
  refine ⟨by simp [h.1], fun i r' hi => ?_⟩
  rw [gM_snoc]
  by_cases e : i < rows.length
  · rw [List.getElem?_append_left e] at hi
    rw [if_pos (by rw [← h.1]; exact e)]; exact h.2 i r' hi
  · rw [List.getElem?_append_right (by omega)] at hi
    have hz : i - rows.length = 0 := by
      rcases Nat.eq_zero_or_pos (i - rows.length) with h0 | h0
      · exact h0
      · rw [List.getElem?_eq_none (by simp; omega)] at hi; cases hi
    rw [hz] at hi
    simp at hi; subst hi
    rw [if_neg (by rw [← h.1]; exact e), if_pos (by rw [← h.1]; omega)]; exact hr
theorem take_snoc {α : Type} {l : List α} {k : Nat} (h : k < l.length) : l.take (k + 1) = l.take k ++ [l[k]] := by
  rw [List.take_add_one, List.getElem?_eq_getElem h]; rfl
set_option maxHeartbeats 4000000 in
theorem refReadM0 {u : PH} {v : Value} {A : List (List Rat)} (h : MatP u v (matT A)) (hs : Sq A) :
    Contract Tryz.prog 71 [v] u PH.mt fun v' u' m' => ∃ a c rows, v' = .slice a A.length c ∧ QAt u' rows A ∧ Bag m' (oQ (.slice a A.length c) rows :: rows.map qRow) := by
  obtain ⟨a0, c0, rfl⟩ := h.opn
  rw [matT_length] at h ⊢
  have hle := hs.le
  refine Contract.of Tryz.func71 (by kernel_rfl) (by kernel_rfl) ?_
  refine G.loop (ι := Nat × (Option Addr × Nat) × List (Value × List Value)) (fun i => [(0, .v (.slice a0 A.length c0)), (3, .v (.slice i.2.1.1 i.1 i.2.1.2)), (9, .v (.int .i64 (A.length : Int))), (10, .v (.int .i64 (i.1 : Int)))]) (fun _ => [])
    (fun i u' m' => i.1 ≤ A.length ∧ QAt u' i.2.2 (A.take i.1) ∧ Bag m' (oQ (.slice i.2.1.1 i.1 i.2.1.2) i.2.2 :: i.2.2.map qRow))
    (fun i => A.length - i.1) (0, (none, 0), []) (by kernel_rfl) (fun _ => by kernel_rfl) ⟨by kernel_rfl, by kernel_rfl, by kernel_rfl⟩ ⟨Nat.zero_le _, ⟨rfl, fun j r hj => by simp at hj⟩, PH.mt, ArrAt.nil _ _ _, trivial⟩ ?_
  rintro J ⟨i, ⟨a, c⟩, rows⟩ hJ u1 m1 l1 ⟨hi, hS, hbag⟩
  simp only at hi hS hbag hJ
  have hrl : rows.length = i := by rw [hS.1, List.length_take]; omega
  by_cases hlt : i < A.length
  · refine G.lssT (i : Int) (A.length : Int) (by kernel_rfl) (by omega) ?_
    obtain ⟨b1, o1, a1, c1, rfl, e1, e2⟩ := (h.mono l1).row (matT_at (List.getElem?_eq_getElem hlt))
    have hil := hs.len hlt
    rw [List.length_map, hil] at e1 e2
    refine G.addr b1 o1 A.length c0 i 1 (by kernel_rfl) hlt ?_
    refine G.loadU none b1 (o1 + i * 1) _ (by kernel_rfl) (by kernel_rfl) e1 ?_
    refine G.loop (ι := Nat × (Option Addr × Nat) × List Value) (fun j => [(0, .v (.slice (some ⟨b1, o1, none⟩) A.length c0)), (3, .v (.slice a i c)), (9, .v (.int .i64 (A.length : Int))), (10, .v (.int .i64 (i : Int))), (5, .v (.slice j.2.1.1 j.1 j.2.1.2)), (16, .v (.slice a1 A.length c1)), (17, .v (.int .i64 (A.length : Int))), (18, .v (.int .i64 (j.1 : Int)))]) (fun _ => [])
      (fun j u' m' => j.1 ≤ A.length ∧ AtP QP u' j.2.2 (A[i].take j.1) ∧ Bag m' (qRow (.slice j.2.1.1 j.1 j.2.1.2, j.2.2) :: oQ (.slice a i c) rows :: rows.map qRow))
      (fun j => A.length - j.1) (0, (none, 0), []) (by kernel_rfl) (fun _ => by kernel_rfl) ⟨by kernel_rfl, by kernel_rfl, by kernel_rfl⟩ ⟨Nat.zero_le _, AtP.nil, m1, ArrAt.nil _ _ _, hbag⟩ ?_
    rintro J2 ⟨j, ⟨aj, cj⟩, es⟩ hJ2 u2 m2 l2 ⟨hj, hAt, hbagj⟩
    simp only at hj hAt hbagj hJ2
    have hel : es.length = j := by rw [hAt.1, List.length_take]; omega
    by_cases hltj : j < A.length
    · refine G.lssT (j : Int) (A.length : Int) (by kernel_rfl) (by omega) ?_
      have hji : j < A[i].length := by rw [hil]; exact hltj
      obtain ⟨b2, o2, rfl, e3⟩ := ListP.at' (ListP.mono e2 l2) (j := j) (e := .string (mkS (ratT A[i][j]))) (by simp [strsV, List.getElem?_eq_getElem hji])
      refine G.addr b2 o2 A.length c1 j 1 (by kernel_rfl) hltj ?_
      refine G.loadU none b2 (o2 + j * 1) _ (by kernel_rfl) (by kernel_rfl) e3 ?_
      refine G.call0 _ _ (by kernel_rfl) Tryz.call19 (refReadT (hs.tx' hlt hji)) ?_
      intro v4 u4 l4 k4
      obtain ⟨f4, rfl⟩ := k4.opQ
      refine G.buildU 44 4 64 zQ [qv f4] (by kernel_rfl) (qv_ok f4) rfl (by omega) (by simp) (by simp) ?_
      intro g5 u5 l5 e5
      obtain ⟨mm, hx0, hbr⟩ := hbagj
      rw [qRow_at] at hx0
      refine G.append 44 4 64 zQ mm es [qv f4] (.slice aj j cj) g5 0 1 1 (by kernel_rfl) rfl rfl (by omega) hx0 e5 (qv_ok f4) rfl (by omega) (by omega) (by omega) ?_
      intro v6 m6 hx6
      obtain ⟨a6, c6, rfl⟩ := hx6.shape
      have el : (es ++ [qv f4]).length = j + 1 := by simp [hel]
      rw [el] at hx6 ⊢
      refine G.add (j : Int) 1 ((j + 1 : Nat) : Int) (by kernel_rfl) (by omega) (by omega) (by omega) ?_
      refine G.back (by kernel_rfl) (hJ2 (j + 1, (a6, c6), es ++ [qv f4]) _ _ _ ⟨by kernel_rfl, by kernel_rfl, by kernel_rfl⟩ ((l2.trans l4).trans l5) ⟨by dsimp only; omega, ?_, mm, hx6, hbr⟩ (by dsimp only; omega))
      dsimp only
      rw [take_snoc hji]
      exact (hAt.mono (fun _ _ k => k.mono (l4.trans l5))).snoc (k4.mono l5)
    · obtain rfl : j = A.length := by omega
      refine G.lssF (A.length : Int) (A.length : Int) (by kernel_rfl) (by omega) ?_
      have hA : A[i].take A.length = A[i] := by rw [← hil]; exact List.take_length
      rw [hA] at hAt
      refine G.buildU 112 1 24 (.slice none 0 0) [.slice aj A.length cj] (by kernel_rfl) (slice_ok _ _ _) rfl (by omega) (by simp) (by simp) ?_
      intro g5 u5 l5 e5
      obtain ⟨m0, hx0, hput⟩ := hbagj.focus 1 rfl
      rw [oQ_at] at hx0
      refine G.append 112 1 24 (.slice none 0 0) m0 (rows.map (·.1)) [.slice aj A.length cj] (.slice a i c) g5 0 1 1 (by kernel_rfl) rfl rfl (by omega) hx0 e5 (slice_ok _ _ _) rfl (by omega) (by simp; omega) (by simp; omega) ?_
      intro v6 m6 hx6
      have em : rows.map (·.1) ++ [Value.slice aj A.length cj] = (rows ++ [(Value.slice aj A.length cj, es)]).map (·.1) := by simp
      rw [em] at hx6
      obtain ⟨a6, c6, rfl⟩ := hx6.shape
      have el : ((rows ++ [(Value.slice aj A.length cj, es)]).map (·.1)).length = i + 1 := by simp [hrl]
      rw [el] at hx6 ⊢
      have hbag3 := hput (oQ (.slice a6 (i + 1) c6) (rows ++ [(Value.slice aj A.length cj, es)])) m6 hx6
      have hbag4 := Bag.perm perm_row hbag3
      refine G.add (i : Int) 1 ((i + 1 : Nat) : Int) (by kernel_rfl) (by omega) (by omega) (by omega) ?_
      refine G.back (by kernel_rfl) (hJ (i + 1, (a6, c6), rows ++ [(Value.slice aj A.length cj, es)]) _ _ _ ⟨by kernel_rfl, by kernel_rfl, by kernel_rfl⟩ ((l1.trans l2).trans l5) ⟨by dsimp only; omega, ?_, by simpa using hbag4⟩ (by dsimp only; omega))
      dsimp only
      rw [take_snoc hlt]
      exact (hS.mono (l2.trans l5)).snoc (hAt.mono (fun _ _ k => k.mono l5))
  · obtain rfl : i = A.length := by omega
    refine G.lssF (A.length : Int) (A.length : Int) (by kernel_rfl) (by omega) ?_
    rw [List.take_length] at hS
    exact G.ret (.slice a A.length c) (by kernel_rfl) ⟨a, c, rows, rfl, hS, hbag⟩
end Go.Proofs.YtldokelpolbnnaaGreatDoor
end
section
set_option linter.unusedSectionVars false
set_option linter.unusedVariables false
namespace Go.Proofs.YtldokelpolbnnaaGreatDoor
def atReg : List KI → Bool
  | .code (.region _ _ _) :: _ => true
  | _ => false
def meet (P : Program) : Nat → List KI × S → List KI × S
  | 0, st => st
  | n + 1, st => cond (atReg st.1) st (match one P st.1 st.2 with | some st' => meet P n st' | none => st)
section rules
variable {P : Program} [Mixed P] {fn : Func} {Post : Spec} {st : List KI × S} {u m : PH}
theorem meet_sound : ∀ (n : Nat) (st : List KI × S), Sym P fn Post (meet P n st).1 (meet P n st).2 u m → Sym P fn Post st.1 st.2 u m
  | 0, st, h => h
  | n + 1, st, h => by
    unfold meet at h
    cases hn : atReg st.1 with
    | true => simp [hn] at h; exact h
    | false =>
      simp only [hn, cond_false] at h
      split at h
      · rename_i st' he
        obtain ⟨ks', s'⟩ := st'
        exact one_sound Mixed.mx he (meet_sound n _ h)
      · exact h
theorem G.canon (T : List (Nat × SV)) (B : List (Nat × Blk)) (h : noReg (meet P 200 st).1 = true) (hl : liveB T B = true) (h0 : Cov (meet P 200 st).2.n (meet P 200 st).2 T B) (k : G P fn Post ((meet P 200 st).1, S.of (meet P 200 st).2.n T B) u m) : G P fn Post st u m := by
  refine ⟨meet_sound 200 st ?_⟩
  have hk := k.out
  rw [Sym.ofNo h] at hk ⊢
  intro c ρ a w hm0 hr
  exact hk c ρ a w hm0 (hr.cov h0 hl)
theorem G.join {ι : Type} (b : Value) (T : ι → List (Nat × SV)) (B : ι → List (Nat × Blk)) (Inv : ι → PH → PH → Prop) (hl : ∀ i, liveB (T i) (B i) = true) (hn : noReg (meet P 200 (nx (adv P st) b)).1 = true)
    (tail : ∀ i u' m', PH.le u u' → Inv i u' m' → G P fn Post ((meet P 200 (nx (adv P st) b)).1, S.of (meet P 200 (nx (adv P st) b)).2.n (T i) (B i)) u' m')
    (k : (∀ i st' u' m', (meet P 200 st').1 = (meet P 200 (nx (adv P st) b)).1 → Cov (meet P 200 (nx (adv P st) b)).2.n (meet P 200 st').2 (T i) (B i) → PH.le u u' → Inv i u' m' → G P fn Post st' u' m') → G P fn Post st u m) : G P fn Post st u m := by
  refine k fun i st' u' m' h1 h2 h3 h4 => ?_
  have hc : Cov (meet P 200 st').2.n (meet P 200 st').2 (T i) (B i) := ⟨rfl, h2.t, h2.b⟩
  refine G.canon (T i) (B i) (by rw [h1]; exact hn) (hl i) hc ?_
  rw [h1, h2.n]
  exact tail i u' m' h3 h4
end rules
end Go.Proofs.YtldokelpolbnnaaGreatDoor
end
section
set_option linter.unusedSectionVars false
set_option linter.unusedVariables false
namespace Go.Proofs.YtldokelpolbnnaaGreatDoor
open Go.RowKit
def pArr (v : Value) (P : List Nat) : Arr := ⟨v, 3, 1, intsV P⟩
theorem pArr_at {v : Value} {P : List Nat} {m0 m : PH} : (pArr v P).At m0 m = ArrAt m0 m v 3 1 (intsV P) := rfl
theorem get_qrow {s o : Arr} {rows : List (Value × List Value)} {i : Nat} {r : Value × List Value} (h : rows[i]? = some r) : (s :: o :: rows.map qRow)[i + 2]? = some (qRow r) := by simp [h]
theorem set_qrow {s o : Arr} {rows : List (Value × List Value)} {i : Nat} {r : Value × List Value} : (s :: o :: rows.map qRow).set (i + 2) (qRow r) = s :: o :: (rows.set i r).map qRow := by
  rw [List.set_cons_succ, List.set_cons_succ, List.map_set]
theorem oQ_set {v : Value} {rows : List (Value × List Value)} {i : Nat} {x : Value} {es es' : List Value} (h : rows[i]? = some (x, es)) : oQ v (rows.set i (x, es')) = oQ v rows := by
  unfold oQ; rw [map_fst_set (r' := (x, es')) h rfl]
theorem rowQ {u m : PH} {pa : Arr} {g n c w i : Nat} {rows : List (Value × List Value)} {X : List (List Rat)} (hbag : Bag m (pa :: oQ (.slice (some ⟨g, 0, none⟩) n c) rows :: rows.map qRow)) (hQ : QAt u rows X) (hX : Rec n w X) (hi : i < n) (hw : 0 < w) :
    ∃ gi ci ei, rows[i]? = some (.slice (some ⟨gi, 0, none⟩) w ci, ei) ∧ ei.length = w ∧ AtP QP u ei (gM X i) ∧ ElP m g (0 + i * 1) (.slice (some ⟨gi, 0, none⟩) w ci) ∧ ∀ j, j < w → ∃ f, ei[j]? = some (qv f) ∧ QP u (qv f) (gR (gM X i) j) ∧ ElP m gi (0 + j * 4) (qv f) := by
  have hrl : rows.length = n := by rw [hQ.1, hX.1]
  have hri : rows[i]? = some rows[i] := List.getElem?_eq_getElem (by omega)
  have hAt := hQ.2 i _ hri
  obtain ⟨⟨vi, ei⟩, he⟩ : ∃ x, rows[i] = x := ⟨_, rfl⟩
  rw [he] at hri hAt
  simp only at hAt
  have hel : ei.length = w := by rw [hAt.1, hX.2 i hi]
  obtain ⟨gi, ci, e⟩ := hbag.ptr (i + 2) (get_qrow hri) (by intro e; simp only [qRow] at e; rw [e] at hel; simp at hel; omega)
  simp only [qRow] at e
  rw [hel] at e
  subst e
  refine ⟨gi, ci, ei, hri, hel, hAt, hbag.el 1 (x := oQ _ rows) rfl rfl (by show (rows.map (·.1))[i]? = _; rw [List.getElem?_map, hri]; rfl), fun j hj => ?_⟩
  have hjl : j < (gM X i).length := by rw [hX.2 i hi]; exact hj
  obtain ⟨e, e1, e2⟩ := hAt.at hjl
  obtain ⟨f, rfl⟩ := e2.opQ
  rw [← gR_at hjl] at e2
  exact ⟨f, e1, e2, hbag.el (i + 2) (x := qRow _) (get_qrow hri) rfl e1⟩
def es (s : Nat) : Nat → Nat
  | 0 => s
  | k + 1 => 4 * es s k + 2
theorem es_le (s : Nat) {k l : Nat} (h : k ≤ l) : es s k ≤ es s l := by
  induction l with
  | zero => have : k = 0 := by omega
            subst this; exact Nat.le_refl _
  | succ l ih =>
    rcases Nat.lt_or_ge k (l + 1) with h' | h'
    · have := ih (by omega)
      show es s k ≤ 4 * es s l + 2
      omega
    · have : k = l + 1 := by omega
      subst this; exact Nat.le_refl _
theorem es_one {s : Nat} (h : 1 ≤ s) (k : Nat) : 1 ≤ es s k := Nat.le_trans h (es_le s (Nat.zero_le k))
theorem SzM.at {X : List (List Rat)} {n w s i j : Nat} (h : SzM X s) (hX : Rec n w X) (hi : i < n) (hj : j < w) : Sz (gR (gM X i) j) s := h i j (by rw [hX.1]; exact hi) (by rw [hX.2 i hi]; exact hj)
theorem szM_of {X : List (List Rat)} {n w s : Nat} (hX : Rec n w X) (h : ∀ i j, i < n → j < w → Sz (gR (gM X i) j) s) : SzM X s := fun i j hi hj => by
  rw [hX.1] at hi
  rw [hX.2 i hi] at hj
  exact h i j hi hj
theorem num0 {q : Rat} : decide (q.num = 0) = decide (q = 0) := decide_eq_decide.2 Rat.num_eq_zero
def mixR (Y R : List Rat) (k : Nat) : List Rat := Y.take k ++ R.drop k
theorem mixR_zero (Y R : List Rat) : mixR Y R 0 = R := by simp [mixR]
theorem mixR_all {Y R : List Rat} {k : Nat} (h : Y.length = k) (h2 : R.length = k) : mixR Y R k = Y := by
  unfold mixR; rw [List.take_of_length_le (by omega), List.drop_of_length_le (by omega), List.append_nil]
theorem mixR_len {Y R : List Rat} {k : Nat} (h : Y.length = R.length) (hk : k ≤ R.length) : (mixR Y R k).length = R.length := by simp [mixR]; omega
theorem mixR_set {Y R : List Rat} {k : Nat} (h : Y.length = R.length) (hk : k < R.length) : (mixR Y R k).set k (gR Y k) = mixR Y R (k + 1) := by
  unfold mixR
  rw [List.set_append_right _ _ (by simp; omega)]
  simp only [List.length_take]
  rw [show k - min k Y.length = 0 by omega, List.drop_eq_getElem_cons hk, List.set_cons_zero, take_snoc (by omega), List.append_assoc, gR_at (by omega)]; rfl
theorem mixR_at {Y R : List Rat} {k : Nat} (h : Y.length = R.length) (hk : k < R.length) : gR (mixR Y R k) k = gR R k := by
  unfold mixR gR
  rw [List.getD_eq_getElem?_getD, List.getElem?_append_right (by simp; omega), List.getD_eq_getElem?_getD]
  simp only [List.length_take]
  rw [show k - min k Y.length = 0 by omega, List.getElem?_drop]; rfl
end Go.Proofs.YtldokelpolbnnaaGreatDoor
end
section
set_option linter.unusedSectionVars false
set_option linter.unusedVariables false
namespace Go.Proofs.YtldokelpolbnnaaGreatDoor
open Go.RowKit
structure ES where
  c : Nat
  P : List Nat
  pa : Option Addr
  pc : Nat
  rows : List (Value × List Value)
  X : List (List Rat)
  f : Q4
  d : Rat
structure E2 where
  rows : List (Value × List Value)
  X : List (List Rat)
  f : Q4
  d : Rat
theorem swap_facts {n w p r E : Nat} {X : List (List Rat)} (h : Rec n w X) (hp : p < n) (hr : r < n) (hs : SzM X E) : Rec n w (if p = r then X else swapL X p r) ∧ SzM (if p = r then X else swapL X p r) E ∧ ∀ j, gR (gM (if p = r then X else swapL X p r) r) j = gR (gM X p) j := by
  by_cases e : p = r
  · rw [if_pos e]
    exact ⟨h, hs, fun j => by rw [e]⟩
  · rw [if_neg e]
    refine ⟨rec_swap h hp hr, szM_of (rec_swap h hp hr) (fun i j hi hj => ?_), fun j => ?_⟩
    · show Sz (en (swapL X p r) i j) E
      rw [en_swap h hp hr]
      split
      · exact hs.at h hp hj
      · split
        · exact hs.at h hr hj
        · exact hs.at h hi hj
    · show en (swapL X p r) r j = _
      rw [en_swap h hp hr, if_pos rfl]; rfl
theorem set_same {α : Type} {l : List α} {i : Nat} {x : α} (h : l[i]? = some x) : l.set i x = l := by
  obtain ⟨h1, h2⟩ := List.getElem?_eq_some_iff.1 h
  rw [← h2]; exact List.set_getElem_self h1
theorem divR_len (F : Rat) (R : List Rat) : (divR F R).length = R.length := by simp [divR]
theorem subR_len (g : Rat) (R S : List Rat) : (subR g R S).length = S.length := by simp [subR]
set_option maxHeartbeats 16000000 in
theorem refElim0 {u m : PH} {a : Option Addr} {co : Nat} {rows0 : List (Value × List Value)} {X0 : List (List Rat)} {n w cols s : Nat} (hX0 : Rec n w X0) (hn : n ≤ 100) (hw : w ≤ 100) (hcw : cols ≤ w) (hsz0 : SzM X0 s) (hs : 1 ≤ s) (hes : es s cols ≤ 1000000000)
    (hQ0 : QAt u rows0 X0) (hbag0 : Bag m (oQ (.slice a n co) rows0 :: rows0.map qRow)) :
    Contract Tryz.prog 73 [.slice a n co, .int .i64 (cols : Int)] u m fun v u' m' => ∃ pa pc f rows', v = .tuple #[.slice pa (elimGo cols 0 [] X0 1).1.length pc, qv f] ∧ QP u' (qv f) (elimGo cols 0 [] X0 1).2.2 ∧ QAt u' rows' (elimGo cols 0 [] X0 1).2.1 ∧
      Bag m' (pArr (.slice pa (elimGo cols 0 [] X0 1).1.length pc) (elimGo cols 0 [] X0 1).1 :: oQ (.slice a n co) rows' :: rows'.map qRow) := by
  refine Contract.of Tryz.func73 (by kernel_rfl) (by kernel_rfl) ?_
  refine G.call0 _ _ (by kernel_rfl) Tryz.call17 (refOf0 (z := 1) (by omega) (by omega)) ?_
  intro v1 u1 l1 k1
  rw [show ((1 : Int) : Rat) = 1 from by decide] at k1
  obtain ⟨f1, rfl⟩ := k1.opQ
  refine G.loop (ι := ES) (fun i => [(0, .v (.slice a n co)), (1, .v (.int .i64 (cols : Int))), (5, .p 1 0), (6, .v (.slice i.pa i.P.length i.pc)), (7, .p 2001 0), (8, .v (.int .i64 (i.c : Int)))]) (fun i => [(1, ⟨44, [.v (.bool false), .v (.slice none 0 0), .v (.bool false), .v (.slice none 0 0)]⟩), (2001, ⟨44, qc i.f⟩)])
    (fun i u' m' => i.c ≤ cols ∧ i.P.length ≤ i.c ∧ elimGo (cols - i.c) i.c i.P i.X i.d = elimGo cols 0 [] X0 1 ∧ Rec n w i.X ∧ SzM i.X (es s i.c) ∧ Sz i.d (es s i.c) ∧ QP u' (qv i.f) i.d ∧ QAt u' i.rows i.X ∧ Bag m' (pArr (.slice i.pa i.P.length i.pc) i.P :: oQ (.slice a n co) i.rows :: i.rows.map qRow))
    (fun i => cols - i.c) ⟨0, [], none, 0, rows0, X0, f1, 1⟩ (by kernel_rfl) (fun _ => by kernel_rfl) ⟨by kernel_rfl, by kernel_rfl, by kernel_rfl⟩ ⟨Nat.zero_le _, Nat.le_refl _, rfl, hX0, hsz0, (sz_one (z := 1) (by decide)).mono hs, k1, hQ0.mono l1, m, ArrAt.nil _ _ _, hbag0⟩ ?_
  rintro J ⟨c, P, pa, pc, rows, X, f, d⟩ hJ u2 m2 l2 ⟨hc, hPc, hgo, hX, hsz, hsd, hf, hQ, hbag⟩
  simp only at hc hPc hgo hX hsz hsd hf hQ hbag hJ
  clear hbag0 hQ0 hsz0 k1
  have hfin : elimGo (cols - c) c P X d = (P, X, d) → ∃ pa' pc' f' rows', (Value.tuple #[.slice pa P.length pc, qv f]) = .tuple #[.slice pa' (elimGo cols 0 [] X0 1).1.length pc', qv f'] ∧ QP u2 (qv f') (elimGo cols 0 [] X0 1).2.2 ∧ QAt u2 rows' (elimGo cols 0 [] X0 1).2.1 ∧ Bag m2 (pArr (.slice pa' (elimGo cols 0 [] X0 1).1.length pc') (elimGo cols 0 [] X0 1).1 :: oQ (.slice a n co) rows' :: rows'.map qRow) := by
    intro e
    rw [e] at hgo
    rw [← hgo]
    exact ⟨pa, pc, f, rows, rfl, hf, hQ, hbag⟩
  by_cases hlt : cols ≤ c
  · refine G.lssF (c : Int) (cols : Int) (by kernel_rfl) (by omega) ?_
    exact G.ret (.tuple #[.slice pa P.length pc, qv f]) (by kernel_rfl) (hfin (by rw [show cols - c = 0 by omega]; rfl))
  have hlt : c < cols := by omega
  refine G.lssT (c : Int) (cols : Int) (by kernel_rfl) (by omega) ?_
  obtain ⟨K, hK⟩ : ∃ K, cols - c = K + 1 := ⟨cols - c - 1, by omega⟩
  by_cases hP : n ≤ P.length
  · refine G.lssF (P.length : Int) (n : Int) (by kernel_rfl) (by omega) ?_
    exact G.ret (.tuple #[.slice pa P.length pc, qv f]) (by kernel_rfl) (hfin (by rw [hK, elimGo, if_neg (by rw [hX.1]; omega)]))
  clear hfin
  have hP : P.length < n := by omega
  refine G.lssT (P.length : Int) (n : Int) (by kernel_rfl) (by omega) ?_
  have hw0 : 0 < w := by omega
  have hrl : rows.length = n := by rw [hQ.1, hX.1]
  obtain ⟨go, co', eo⟩ := hbag.ptr 1 rfl (by intro e; simp only [oQ, List.map_eq_nil_iff] at e; rw [e] at hrl; simp at hrl; omega)
  simp only [oQ, List.length_map, hrl, Value.slice.injEq, true_and] at eo
  obtain ⟨rfl, rfl⟩ := eo
  have hec := es_one hs c
  have hes1 : 4 * es s c + 2 ≤ 1000000000 := Nat.le_trans (es_le s (show c + 1 ≤ cols by omega)) hes
  obtain ⟨E, hE⟩ : ∃ E, E = es s c := ⟨_, rfl⟩
  have hE1 : es s (c + 1) = 4 * E + 2 := by rw [hE]; rfl
  rw [← hE] at hsz hsd hec hes1
  refine G.loop (ι := Nat) (fun p => [(0, .v (.slice (some ⟨go, 0, none⟩) n co)), (1, .v (.int .i64 (cols : Int))), (5, .p 1 0), (6, .v (.slice pa P.length pc)), (7, .p 2001 0), (8, .v (.int .i64 (c : Int))), (9, .v (.int .i64 (P.length : Int))), (10, .v (.int .i64 (p : Int)))]) (fun _ => [(1, ⟨44, [.v (.bool false), .v (.slice none 0 0), .v (.bool false), .v (.slice none 0 0)]⟩), (2001, ⟨44, qc f⟩)])
    (fun p u' m' => P.length ≤ p ∧ p ≤ n ∧ pivGo X c (n - p) p = pivGo X c (n - P.length) P.length ∧ m' = m2) (fun p => n - p) P.length (by kernel_rfl) (fun _ => by kernel_rfl) ⟨by kernel_rfl, by kernel_rfl, by kernel_rfl⟩ ⟨Nat.le_refl _, by omega, rfl, rfl⟩ ?_
  rintro J2 p hJ2 u3 m3 l3 ⟨hp1, hp2, hpv, rfl⟩
  have hQ3 := hQ.mono l3
  have hf3 := hf.mono l3
  by_cases hpn : n ≤ p
  · obtain rfl : p = n := by omega
    refine G.lssF (p : Int) (p : Int) (by kernel_rfl) (by omega) ?_
    refine G.eqlT (p : Int) (p : Int) (by kernel_rfl) rfl ?_
    refine G.add (c : Int) 1 ((c + 1 : Nat) : Int) (by kernel_rfl) (by omega) (by omega) (by omega) ?_
    refine G.back (by kernel_rfl) (hJ ⟨c + 1, P, pa, pc, rows, X, f, d⟩ _ _ _ ⟨by kernel_rfl, by kernel_rfl, by kernel_rfl⟩ (l2.trans l3) ⟨by dsimp only; omega, by dsimp only; omega, ?_, hX, hsz.mono (by dsimp only; omega), hsd.mono (by dsimp only; omega), hf3, hQ3, hbag⟩ (by dsimp only; omega))
    dsimp only
    rw [← hgo, hK, elimGo, if_pos (by rw [hX.1]; exact hP), hX.1, ← hpv, if_pos (by rw [Nat.sub_self]; rfl), show cols - (c + 1) = K by omega]
  have hpn : p < n := by omega
  refine G.lssT (p : Int) (n : Int) (by kernel_rfl) (by omega) ?_
  obtain ⟨K2, hK2⟩ : ∃ K2, n - p = K2 + 1 := ⟨n - p - 1, by omega⟩
  obtain ⟨gp, cp, ep, hrp, hpl, hAp, hop, hcp⟩ := rowQ hbag hQ3 hX hpn hw0
  obtain ⟨fp, hp5, hp6, hp7⟩ := hcp c (by omega)
  have hszp := hsz.at hX hpn (show c < w by omega)
  refine G.addr go 0 n co p 1 (by kernel_rfl) hpn ?_
  refine G.loadM none go (0 + p * 1) _ (by kernel_rfl) (by kernel_rfl) hop ?_
  refine G.addr gp 0 w cp c 4 (by kernel_rfl) (by omega) ?_
  refine G.loadM (some 4) gp (0 + c * 4) (qv fp) (by kernel_rfl) (by kernel_rfl) hp7 ?_
  refine G.call0 _ _ (by kernel_rfl) Tryz.call21 (refZero0 hp6 (Nat.le_trans hszp.1 (by omega))) ?_
  rintro v4 u4 l4 rfl
  rw [num0]
  by_cases hz : gR (gM X p) c = 0
  · rw [decide_eq_true hz]
    refine G.add (p : Int) 1 ((p + 1 : Nat) : Int) (by kernel_rfl) (by omega) (by omega) (by omega) ?_
    refine G.back (by kernel_rfl) (hJ2 (p + 1) _ _ _ ⟨by kernel_rfl, by kernel_rfl, by kernel_rfl⟩ (l3.trans l4) ⟨by omega, by omega, ?_, rfl⟩ (by omega))
    rw [← hpv, hK2, pivGo, if_pos hz, show n - (p + 1) = K2 by omega]
  rw [decide_eq_false hz]
  rw [hK2, pivGo, if_neg hz] at hpv
  clear hJ2
  refine G.eqlF (p : Int) (n : Int) (by kernel_rfl) (by omega) ?_
  refine G.join (ι := E2) (.bool false) (fun i => [(0, .v (.slice (some ⟨go, 0, none⟩) n co)), (1, .v (.int .i64 (cols : Int))), (5, .p 1 0), (6, .v (.slice pa P.length pc)), (7, .p 2001 0), (8, .v (.int .i64 (c : Int))), (9, .v (.int .i64 (P.length : Int)))]) (fun i => [(1, ⟨44, [.v (.bool false), .v (.slice none 0 0), .v (.bool false), .v (.slice none 0 0)]⟩), (2001, ⟨44, qc i.f⟩)])
    (fun i u' m' => i.X = (if p = P.length then X else swapL X p P.length) ∧ i.d = (if p = P.length then d else 0 - d) ∧ QAt u' i.rows i.X ∧ QP u' (qv i.f) i.d ∧ Bag m' (pArr (.slice pa P.length pc) P :: oQ (.slice (some ⟨go, 0, none⟩) n co) i.rows :: i.rows.map qRow)) (fun _ => by kernel_rfl) (by kernel_rfl) ?tail ?way
  case way =>
    intro hjoin
    by_cases hpr : p = P.length
    · refine G.neqF (p : Int) (P.length : Int) (by kernel_rfl) (by omega) ?_
      exact hjoin ⟨rows, X, f, d⟩ _ _ _ (by kernel_rfl) ⟨by kernel_rfl, by kernel_rfl, by kernel_rfl⟩ (PH.le_refl _) ⟨by rw [if_pos hpr], by rw [if_pos hpr], hQ3.mono l4, hf3.mono l4, hbag⟩
    · refine G.neqT (p : Int) (P.length : Int) (by kernel_rfl) (by omega) ?_
      obtain ⟨gr, cr, er, hrr, hrl2, hAr, hor, hcr⟩ := rowQ hbag hQ3 hX hP hw0
      refine G.addr go 0 n co P.length 1 (by kernel_rfl) hP ?_
      refine G.loadM none go (0 + P.length * 1) _ (by kernel_rfl) (by kernel_rfl) hor ?_
      refine G.addr go 0 n co p 1 (by kernel_rfl) hpn ?_
      refine G.loadM none go (0 + p * 1) _ (by kernel_rfl) (by kernel_rfl) hop ?_
      obtain ⟨m0, hx0, hput⟩ := hbag.focus 1 rfl
      rw [oQ_at] at hx0
      refine G.addr go 0 n co p 1 (by kernel_rfl) hpn ?_
      refine G.storeA 1 m0 _ go n co p (.slice (some ⟨gr, 0, none⟩) w cr) (by kernel_rfl) hx0 (by simp; omega) rfl rfl ?_
      intro m5 hx5
      refine G.addr go 0 n co P.length 1 (by kernel_rfl) hP ?_
      refine G.storeA 1 m0 _ go n co P.length (.slice (some ⟨gp, 0, none⟩) w cp) (by kernel_rfl) hx5 (by simp; omega) rfl rfl ?_
      intro m6 hx6
      have hrows : ((rows.map (·.1)).set p (Value.slice (some ⟨gr, 0, none⟩) w cr)).set P.length (Value.slice (some ⟨gp, 0, none⟩) w cp) = ((rows.set p (Value.slice (some ⟨gr, 0, none⟩) w cr, er)).set P.length (Value.slice (some ⟨gp, 0, none⟩) w cp, ep)).map (·.1) := by rw [List.map_set, List.map_set]
      rw [hrows] at hx6
      have hb6 := hput (oQ (.slice (some ⟨go, 0, none⟩) n co) ((rows.set p (Value.slice (some ⟨gr, 0, none⟩) w cr, er)).set P.length (Value.slice (some ⟨gp, 0, none⟩) w cp, ep))) m6 hx6
      have hperm : ((rows.set p (Value.slice (some ⟨gr, 0, none⟩) w cr, er)).set P.length (Value.slice (some ⟨gp, 0, none⟩) w cp, ep)).Perm rows := by
        obtain ⟨q1, q2⟩ := List.getElem?_eq_some_iff.1 hrp
        obtain ⟨q3, q4⟩ := List.getElem?_eq_some_iff.1 hrr
        rw [← q2, ← q4]
        exact List.set_set_perm q1 q3
      have hb7 := Bag.perm (List.Perm.cons _ (List.Perm.cons _ (hperm.symm.map qRow))) hb6
      have hQ1 := (hQ3.set (i := p) (r := (Value.slice (some ⟨gr, 0, none⟩) w cr, er)) (by omega) hAr).set (i := P.length) (r := (Value.slice (some ⟨gp, 0, none⟩) w cp, ep)) (by simp; omega) hAp
      refine G.call0 _ _ (by kernel_rfl) Tryz.call17 (refOf0 (z := 0) (by omega) (by omega)) ?_
      intro v8 u8 l8 k8
      rw [show ((0 : Int) : Rat) = 0 from by decide] at k8
      obtain ⟨f8, rfl⟩ := k8.opQ
      refine G.call0 _ _ (by kernel_rfl) Tryz.call28 (refSub0 k8 (hf3.mono (l4.trans l8)) (sz_zero.mono (by omega)) (hsd.mono (by omega))) ?_
      intro v9 u9 l9 k9
      obtain ⟨f9, rfl⟩ := k9.opQ
      exact hjoin ⟨(rows.set p (Value.slice (some ⟨gr, 0, none⟩) w cr, er)).set P.length (Value.slice (some ⟨gp, 0, none⟩) w cp, ep), swapL X p P.length, f9, 0 - d⟩ _ _ _ (by kernel_rfl) ⟨by kernel_rfl, by kernel_rfl, by kernel_rfl⟩ (l8.trans l9) ⟨by rw [if_neg hpr], by rw [if_neg hpr], hQ1.mono (l4.trans (l8.trans l9)), k9, hb7⟩
  rintro ⟨rows1, X1, f1', d1⟩ u5 m5 l5 ⟨hX1e, hd1e, hQ1, hf1, hbag1⟩
  simp only at hX1e hd1e hQ1 hf1 hbag1
  obtain ⟨hX1, hsz1, hX1r⟩ := swap_facts hX hpn hP hsz
  have hsd1 : Sz (if p = P.length then d else 0 - d) (E + 2) := by
    split
    · exact hsd.mono (by omega)
    · exact (sz_sub2 sz_zero hsd).mono (by omega)
  have hstep : elimGo (cols - c) c P X d = elimGo (cols - (c + 1)) (c + 1) (P ++ [c]) (clrGo P.length c n 0 (normX X1 P.length c)) (d1 * gR (gM X1 P.length) c) := by
    rw [hK, elimGo, if_pos (by rw [hX.1]; exact hP), hX.1, ← hpv, if_neg (by omega), show cols - (c + 1) = K by omega, hX1e, hd1e, hX1r]
    unfold stepX
    rw [hX.1]
  rw [← hX1e] at hX1 hsz1 hX1r
  rw [← hd1e] at hsd1
  rw [hstep] at hgo
  have hFne : gR (gM X1 P.length) c ≠ 0 := by rw [hX1r]; exact hz
  clear hstep hX1e hd1e hX1r hbag hQ hQ3 hf3 hf hsz hsd hpv hrp hpl hAp hop hcp hp5 hp6 hp7 hszp hz hK2
  have hr1 : rows1.length = n := by rw [hQ1.1, hX1.1]
  obtain ⟨gr, cr, er, hrr, hrl2, hAr, hor, hcr⟩ := rowQ hbag1 hQ1 hX1 hP hw0
  obtain ⟨fr, h5, h6, h7⟩ := hcr c (by omega)
  obtain ⟨R, hR⟩ : ∃ R, R = gM X1 P.length := ⟨_, rfl⟩
  have hRl : R.length = w := by rw [hR]; exact hX1.2 _ hP
  have hRz : ∀ j, j < w → Sz (gR R j) E := fun j hj => by rw [hR]; exact hsz1.at hX1 hP hj
  rw [← hR] at h6 hAr hgo
  obtain ⟨F, hF⟩ : ∃ F, F = gR R c := ⟨_, rfl⟩
  have hFz : Sz F E := by rw [hF]; exact hRz c (by omega)
  rw [← hF] at h6 hgo
  rw [← hR, ← hF] at hFne
  refine G.addr go 0 n co P.length 1 (by kernel_rfl) hP ?_
  refine G.loadM none go (0 + P.length * 1) _ (by kernel_rfl) (by kernel_rfl) hor ?_
  refine G.addr gr 0 w cr c 4 (by kernel_rfl) (by omega) ?_
  refine G.loadM (some 4) gr (0 + c * 4) (qv fr) (by kernel_rfl) (by kernel_rfl) h7 ?_
  refine G.call0 _ _ (by kernel_rfl) Tryz.call18 (refMul0 hf1 h6 (hsd1.mono (by omega)) (hFz.mono (by omega))) ?_
  intro v6 u6 l6 k6
  obtain ⟨f6, rfl⟩ := k6.opQ
  refine G.addr go 0 n co P.length 1 (by kernel_rfl) hP ?_
  refine G.loadM none go (0 + P.length * 1) _ (by kernel_rfl) (by kernel_rfl) hor ?_
  refine G.addr gr 0 w cr c 4 (by kernel_rfl) (by omega) ?_
  refine G.loadM (some 4) gr (0 + c * 4) (qv fr) (by kernel_rfl) (by kernel_rfl) h7 ?_
  refine G.addr go 0 n co P.length 1 (by kernel_rfl) hP ?_
  refine G.loadM none go (0 + P.length * 1) _ (by kernel_rfl) (by kernel_rfl) hor ?_
  have hdl := divR_len F R
  have hF0 : F ≠ 0 := hFne
  refine G.loop (ι := Nat × List Value) (fun i => [(0, .v (.slice (some ⟨go, 0, none⟩) n co)), (1, .v (.int .i64 (cols : Int))), (5, .p 1 0), (6, .v (.slice pa P.length pc)), (7, .p 2001 0), (8, .v (.int .i64 (c : Int))), (9, .v (.int .i64 (P.length : Int))), (11, .p 15007 0), (92, .v (.int .i64 (w : Int))), (93, .v (.int .i64 (i.1 : Int)))]) (fun i => [(1, ⟨44, [.v (.bool false), .v (.slice none 0 0), .v (.bool false), .v (.slice none 0 0)]⟩), (2001, ⟨44, qc f6⟩), (15007, ⟨44, qc fr⟩)])
    (fun i u' m' => i.1 ≤ w ∧ AtP QP u' i.2 (mixR (divR F R) R i.1) ∧ Bag m' (pArr (.slice pa P.length pc) P :: oQ (.slice (some ⟨go, 0, none⟩) n co) rows1 :: (rows1.set P.length ((Value.slice (some ⟨gr, 0, none⟩) w cr), i.2)).map qRow)) (fun i => w - i.1) (0, er) (by kernel_rfl) (fun _ => by kernel_rfl) ⟨by kernel_rfl, by kernel_rfl, by kernel_rfl⟩
    ⟨Nat.zero_le _, by rw [mixR_zero]; exact hAr.mono (fun _ _ k => k.mono l6), by rw [set_same hrr]; exact hbag1⟩ ?_
  rintro J3 ⟨k, es1⟩ hJ3 u7 m7 l7 ⟨hk, hAt, hbk⟩
  simp only at hk hAt hbk hJ3
  have hml := mixR_len (k := k) (hdl.trans rfl) (by omega)
  have hel : es1.length = w := by rw [hAt.1, hml, hRl]
  have hget : (rows1.set P.length ((Value.slice (some ⟨gr, 0, none⟩) w cr), es1))[P.length]? = some ((Value.slice (some ⟨gr, 0, none⟩) w cr), es1) := by rw [List.getElem?_set]; simp [hr1, hP]
  by_cases hkw : k < w
  · refine G.lssT (k : Int) (w : Int) (by kernel_rfl) (by omega) ?_
    obtain ⟨e, e1, e2⟩ := hAt.at (j := k) (by omega)
    obtain ⟨fe, rfl⟩ := e2.opQ
    rw [← gR_at (by omega), mixR_at hdl (by omega)] at e2
    have ho : ElP m7 go (0 + P.length * 1) (Value.slice (some ⟨gr, 0, none⟩) w cr) := hbk.el 1 (x := oQ (.slice (some ⟨go, 0, none⟩) n co) rows1) rfl rfl (by show (rows1.map (·.1))[P.length]? = _; rw [List.getElem?_map, hrr]; rfl)
    have he : ElP m7 gr (0 + k * 4) (qv fe) := hbk.el (P.length + 2) (x := qRow ((Value.slice (some ⟨gr, 0, none⟩) w cr), es1)) (get_qrow hget) rfl e1
    refine G.addr go 0 n co P.length 1 (by kernel_rfl) hP ?_
    refine G.loadM none go (0 + P.length * 1) _ (by kernel_rfl) (by kernel_rfl) ho ?_
    refine G.addr go 0 n co P.length 1 (by kernel_rfl) hP ?_
    refine G.loadM none go (0 + P.length * 1) _ (by kernel_rfl) (by kernel_rfl) ho ?_
    refine G.addr gr 0 w cr k 4 (by kernel_rfl) hkw ?_
    refine G.loadM (some 4) gr (0 + k * 4) (qv fe) (by kernel_rfl) (by kernel_rfl) he ?_
    refine G.call0 _ _ (by kernel_rfl) Tryz.call114 (refDiv0 e2 (h6.mono (l6.trans l7)) ((hRz k hkw).mono (by omega)) (hFz.mono (by omega)) hF0) ?_
    intro v8 u8 l8 k8
    obtain ⟨f8, rfl⟩ := k8.opQ
    obtain ⟨m0, hx0, hput⟩ := hbk.focus (P.length + 2) (get_qrow hget)
    rw [qRow_at] at hx0
    refine G.addr gr 0 w cr k 4 (by kernel_rfl) hkw ?_
    refine G.storeA 4 m0 es1 gr w cr k (qv f8) (by kernel_rfl) hx0 (by omega) rfl rfl ?_
    intro m9 hx9
    have hb9 := hput (qRow ((Value.slice (some ⟨gr, 0, none⟩) w cr), es1.set k (qv f8))) m9 hx9
    rw [set_qrow, List.set_set] at hb9
    refine G.add (k : Int) 1 ((k + 1 : Nat) : Int) (by kernel_rfl) (by omega) (by omega) (by omega) ?_
    refine G.back (by kernel_rfl) (hJ3 (k + 1, es1.set k (qv f8)) _ _ _ ⟨by kernel_rfl, by kernel_rfl, by kernel_rfl⟩ (l7.trans l8) ⟨by dsimp only; omega, ?_, hb9⟩ (by dsimp only; omega))
    dsimp only
    rw [← mixR_set hdl (by omega), gR_div]
    exact (hAt.mono (fun _ _ k => k.mono l8)).set k k8
  obtain rfl : k = w := by omega
  refine G.lssF (k : Int) (k : Int) (by kernel_rfl) (by omega) ?_
  rw [mixR_all (by omega) hRl] at hAt
  clear hJ3 hml hkw hk h7 hor hcr h5
  have hX2 : Rec n k (X1.set P.length (divR F R)) := rec_set hX1 hP (by omega)
  have hX2e : normX X1 P.length c = X1.set P.length (divR F R) := by unfold normX; rw [← hR, ← hF]
  rw [hX2e] at hgo
  have hQ2 := (hQ1.mono (l6.trans l7)).set (i := P.length) (r := ((Value.slice (some ⟨gr, 0, none⟩) k cr), es1)) (by omega) hAt
  rw [← oQ_set (es' := es1) hrr] at hbk
  have hrow2 : ∀ i, gM (X1.set P.length (divR F R)) i = if P.length = i then divR F R else gM X1 i := fun i => gM_set (by rw [hX1.1]; exact hP)
  generalize rows1.set P.length ((Value.slice (some ⟨gr, 0, none⟩) k cr), es1) = rows2 at *
  obtain ⟨X2, hX2n⟩ : ∃ X2, X2 = X1.set P.length (divR F R) := ⟨_, rfl⟩
  rw [← hX2n] at hX2 hQ2 hgo hrow2
  have hdz : ∀ j, j < k → Sz (gR (divR F R) j) (2 * E) := fun j hj => by rw [gR_div]; exact (sz_div (hRz j hj) hFz hF0).mono (by omega)
  have hsz2 : ∀ i j, i < n → j < k → i ≠ P.length → Sz (gR (gM X2 i) j) E := fun i j hi hj hne => by rw [hrow2, if_neg (fun e => hne e.symm)]; exact hsz1.at hX1 hi hj
  have hrr2 : gM X2 P.length = divR F R := by rw [hrow2, if_pos rfl]
  clear hX2n hX2e hQ1 hbag1 hrow2 hsz1 hX1 hrr hrl2 hAr hAt hget hel hr1
  refine G.loop (ι := Nat × List (Value × List Value) × List (List Rat)) (fun i => [(0, .v (.slice (some ⟨go, 0, none⟩) n co)), (1, .v (.int .i64 (cols : Int))), (5, .p 1 0), (6, .v (.slice pa P.length pc)), (7, .p 2001 0), (8, .v (.int .i64 (c : Int))), (9, .v (.int .i64 (P.length : Int))), (113, .v (.int .i64 (n : Int))), (114, .v (.int .i64 (i.1 : Int)))]) (fun i => [(1, ⟨44, [.v (.bool false), .v (.slice none 0 0), .v (.bool false), .v (.slice none 0 0)]⟩), (2001, ⟨44, qc f6⟩)])
    (fun i u' m' => i.1 ≤ n ∧ clrGo P.length c (n - i.1) i.1 i.2.2 = clrGo P.length c n 0 X2 ∧ Rec n k i.2.2 ∧ gM i.2.2 P.length = divR F R ∧ (∀ x j, i.1 ≤ x → x < n → j < k → x ≠ P.length → Sz (gR (gM i.2.2 x) j) E) ∧ SzM i.2.2 (4 * E + 2) ∧ QAt u' i.2.1 i.2.2 ∧ Bag m' (pArr (.slice pa P.length pc) P :: oQ (.slice (some ⟨go, 0, none⟩) n co) i.2.1 :: i.2.1.map qRow))
    (fun i => n - i.1) (0, rows2, X2) (by kernel_rfl) (fun _ => by kernel_rfl) ⟨by kernel_rfl, by kernel_rfl, by kernel_rfl⟩ ⟨Nat.zero_le _, rfl, hX2, hrr2, fun x j _ hx hj hne => hsz2 x j hx hj hne, szM_of hX2 (fun x j hx hj => ?_), hQ2, hbk⟩ ?_
  · by_cases e : x = P.length
    · rw [e, hrr2]; exact (hdz j hj).mono (by omega)
    · exact (hsz2 x j hx hj e).mono (by omega)
  clear hbk hQ2 hsz2 hrr2 hX2
  rintro J4 ⟨i, rows3, X3⟩ hJ4 u8 m8 l8 ⟨hi, hcl, hX3, hrr3, hszi, hsz3, hQ3, hbag3⟩
  simp only at hi hcl hX3 hrr3 hszi hsz3 hQ3 hbag3 hJ4
  have hr3 : rows3.length = n := by rw [hQ3.1, hX3.1]
  by_cases hin : i < n
  · refine G.lssT (i : Int) (n : Int) (by kernel_rfl) (by omega) ?_
    obtain ⟨K3, hK3⟩ : ∃ K3, n - i = K3 + 1 := ⟨n - i - 1, by omega⟩
    by_cases hir : i = P.length
    · refine G.eqlT (i : Int) (P.length : Int) (by kernel_rfl) (by omega) ?_
      refine G.add (i : Int) 1 ((i + 1 : Nat) : Int) (by kernel_rfl) (by omega) (by omega) (by omega) ?_
      refine G.back (by kernel_rfl) (hJ4 (i + 1, rows3, X3) _ _ _ ⟨by kernel_rfl, by kernel_rfl, by kernel_rfl⟩ l8 ⟨by dsimp only; omega, ?_, hX3, hrr3, fun x j h1 => hszi x j (by dsimp only at h1; omega), hsz3, hQ3, hbag3⟩ (by dsimp only; omega))
      dsimp only
      rw [← hcl, hK3, clrGo, if_pos (.inl hir), show n - (i + 1) = K3 by omega]
    refine G.eqlF (i : Int) (P.length : Int) (by kernel_rfl) (by omega) ?_
    obtain ⟨gi, ci, ei, hri, hil, hAi, hoi, hci⟩ := rowQ hbag3 hQ3 hX3 hin hw0
    obtain ⟨fg, g5, g6, g7⟩ := hci c (by omega)
    have hgz := hszi i c (Nat.le_refl _) hin (show c < k by omega) hir
    refine G.addr go 0 n co i 1 (by kernel_rfl) hin ?_
    refine G.loadM none go (0 + i * 1) _ (by kernel_rfl) (by kernel_rfl) hoi ?_
    refine G.addr gi 0 k ci c 4 (by kernel_rfl) (by omega) ?_
    refine G.loadM (some 4) gi (0 + c * 4) (qv fg) (by kernel_rfl) (by kernel_rfl) g7 ?_
    refine G.call0 _ _ (by kernel_rfl) Tryz.call21 (refZero0 g6 (Nat.le_trans hgz.1 (by omega))) ?_
    rintro v9 u9 l9 rfl
    rw [num0]
    by_cases hgz0 : gR (gM X3 i) c = 0
    · rw [decide_eq_true hgz0]
      refine G.add (i : Int) 1 ((i + 1 : Nat) : Int) (by kernel_rfl) (by omega) (by omega) (by omega) ?_
      refine G.back (by kernel_rfl) (hJ4 (i + 1, rows3, X3) _ _ _ ⟨by kernel_rfl, by kernel_rfl, by kernel_rfl⟩ (l8.trans l9) ⟨by dsimp only; omega, ?_, hX3, hrr3, fun x j h1 => hszi x j (by dsimp only at h1; omega), hsz3, hQ3.mono l9, hbag3⟩ (by dsimp only; omega))
      dsimp only
      rw [← hcl, hK3, clrGo, if_pos (.inr hgz0), show n - (i + 1) = K3 by omega]
    rw [decide_eq_false hgz0]
    obtain ⟨S, hS⟩ : ∃ S, S = gM X3 i := ⟨_, rfl⟩
    have hSl : S.length = k := by rw [hS]; exact hX3.2 i hin
    have hSz : ∀ j, j < k → Sz (gR S j) E := fun j hj => by rw [hS]; exact hszi i j (Nat.le_refl _) hin hj hir
    have hcl2 : clrGo P.length c (n - (i + 1)) (i + 1) (X3.set i (subR (gR S c) (divR F R) S)) = clrGo P.length c n 0 X2 := by
      rw [← hcl, hK3, clrGo, if_neg (by simp [hir, hgz0]), show n - (i + 1) = K3 by omega, hS, hrr3]
    rw [← hS] at g6 hgz hAi
    generalize hg : gR S c = g at *
    have hsl := subR_len g (divR F R) S
    refine G.addr go 0 n co i 1 (by kernel_rfl) hin ?_
    refine G.loadM none go (0 + i * 1) _ (by kernel_rfl) (by kernel_rfl) hoi ?_
    refine G.addr gi 0 k ci c 4 (by kernel_rfl) (by omega) ?_
    refine G.loadM (some 4) gi (0 + c * 4) (qv fg) (by kernel_rfl) (by kernel_rfl) g7 ?_
    refine G.addr go 0 n co i 1 (by kernel_rfl) hin ?_
    refine G.loadM none go (0 + i * 1) _ (by kernel_rfl) (by kernel_rfl) hoi ?_
    obtain ⟨gs, cs, er3, hrs, hsl3, hAs, hos, hcs⟩ := rowQ hbag3 hQ3 hX3 hP hw0
    refine G.loop (ι := Nat × List Value) (fun y => [(0, .v (.slice (some ⟨go, 0, none⟩) n co)), (1, .v (.int .i64 (cols : Int))), (5, .p 1 0), (6, .v (.slice pa P.length pc)), (7, .p 2001 0), (8, .v (.int .i64 (c : Int))), (9, .v (.int .i64 (P.length : Int))), (113, .v (.int .i64 (n : Int))), (114, .v (.int .i64 (i : Int))), (13, .v (.int .i64 (i : Int))), (14, .p 25007 0), (141, .v (.int .i64 (k : Int))), (142, .v (.int .i64 (y.1 : Int)))]) (fun y => [(1, ⟨44, [.v (.bool false), .v (.slice none 0 0), .v (.bool false), .v (.slice none 0 0)]⟩), (2001, ⟨44, qc f6⟩), (25007, ⟨44, qc fg⟩)])
      (fun y u' m' => y.1 ≤ k ∧ AtP QP u' y.2 (mixR (subR g (divR F R) S) S y.1) ∧ Bag m' (pArr (.slice pa P.length pc) P :: oQ (.slice (some ⟨go, 0, none⟩) n co) rows3 :: (rows3.set i ((Value.slice (some ⟨gi, 0, none⟩) k ci), y.2)).map qRow)) (fun y => k - y.1) (0, ei) (by kernel_rfl) (fun _ => by kernel_rfl) ⟨by kernel_rfl, by kernel_rfl, by kernel_rfl⟩
      ⟨Nat.zero_le _, by rw [mixR_zero]; exact hAi.mono (fun _ _ k => k.mono l9), by rw [set_same hri]; exact hbag3⟩ ?_
    rintro J5 ⟨y, es2⟩ hJ5 u10 m10 l10 ⟨hy, hAt, hbk⟩
    simp only at hy hAt hbk hJ5
    have hml := mixR_len (k := y) hsl (by omega)
    have hel : es2.length = k := by rw [hAt.1, hml, hSl]
    have hget : (rows3.set i ((Value.slice (some ⟨gi, 0, none⟩) k ci), es2))[i]? = some ((Value.slice (some ⟨gi, 0, none⟩) k ci), es2) := by rw [List.getElem?_set]; simp [hr3, hin]
    have hgets : (rows3.set i ((Value.slice (some ⟨gi, 0, none⟩) k ci), es2))[P.length]? = some (Value.slice (some ⟨gs, 0, none⟩) k cs, er3) := by rw [List.getElem?_set, if_neg hir]; exact hrs
    by_cases hyk : y < k
    · refine G.lssT (y : Int) (k : Int) (by kernel_rfl) (by omega) ?_
      obtain ⟨e, e1, e2⟩ := hAt.at (j := y) (by omega)
      obtain ⟨fe, rfl⟩ := e2.opQ
      rw [← gR_at (by omega), mixR_at hsl (by omega)] at e2
      have ho : ElP m10 go (0 + i * 1) (Value.slice (some ⟨gi, 0, none⟩) k ci) := hbk.el 1 (x := oQ (.slice (some ⟨go, 0, none⟩) n co) rows3) rfl rfl (by show (rows3.map (·.1))[i]? = _; rw [List.getElem?_map, hri]; rfl)
      have hop : ElP m10 go (0 + P.length * 1) (Value.slice (some ⟨gs, 0, none⟩) k cs) := hbk.el 1 (x := oQ (.slice (some ⟨go, 0, none⟩) n co) rows3) rfl rfl (by show (rows3.map (·.1))[P.length]? = _; rw [List.getElem?_map, hrs]; rfl)
      have he : ElP m10 gi (0 + y * 4) (qv fe) := hbk.el (i + 2) (x := qRow ((Value.slice (some ⟨gi, 0, none⟩) k ci), es2)) (get_qrow hget) rfl e1
      obtain ⟨fs, s5, s6, _⟩ := hcs y hyk
      rw [hrr3] at s6
      have hes : ElP m10 gs (0 + y * 4) (qv fs) := hbk.el (P.length + 2) (x := qRow (Value.slice (some ⟨gs, 0, none⟩) k cs, er3)) (get_qrow hgets) rfl s5
      refine G.addr go 0 n co i 1 (by kernel_rfl) hin ?_
      refine G.loadM none go (0 + i * 1) _ (by kernel_rfl) (by kernel_rfl) ho ?_
      refine G.addr go 0 n co i 1 (by kernel_rfl) hin ?_
      refine G.loadM none go (0 + i * 1) _ (by kernel_rfl) (by kernel_rfl) ho ?_
      refine G.addr gi 0 k ci y 4 (by kernel_rfl) hyk ?_
      refine G.loadM (some 4) gi (0 + y * 4) (qv fe) (by kernel_rfl) (by kernel_rfl) he ?_
      refine G.addr go 0 n co P.length 1 (by kernel_rfl) hP ?_
      refine G.loadM none go (0 + P.length * 1) _ (by kernel_rfl) (by kernel_rfl) hop ?_
      refine G.addr gs 0 k cs y 4 (by kernel_rfl) hyk ?_
      refine G.loadM (some 4) gs (0 + y * 4) (qv fs) (by kernel_rfl) (by kernel_rfl) hes ?_
      refine G.call0 _ _ (by kernel_rfl) Tryz.call18 (refMul0 (g6.mono (l9.trans l10)) (s6.mono (l9.trans l10)) (hgz.mono (by omega)) ((hdz y hyk).mono (by omega))) ?_
      intro v11 u11 l11 k11
      obtain ⟨f11, rfl⟩ := k11.opQ
      have hmz := sz_mul2 hgz (hdz y hyk)
      refine G.call0 _ _ (by kernel_rfl) Tryz.call28 (refSub0 (e2.mono l11) k11 ((hSz y hyk).mono (by omega)) (hmz.mono (by omega))) ?_
      intro v12 u12 l12 k12
      obtain ⟨f12, rfl⟩ := k12.opQ
      obtain ⟨m0, hx0, hput⟩ := hbk.focus (i + 2) (get_qrow hget)
      rw [qRow_at] at hx0
      refine G.addr gi 0 k ci y 4 (by kernel_rfl) hyk ?_
      refine G.storeA 4 m0 es2 gi k ci y (qv f12) (by kernel_rfl) hx0 (by omega) rfl rfl ?_
      intro m13 hx13
      have hb13 := hput (qRow ((Value.slice (some ⟨gi, 0, none⟩) k ci), es2.set y (qv f12))) m13 hx13
      rw [set_qrow, List.set_set] at hb13
      refine G.add (y : Int) 1 ((y + 1 : Nat) : Int) (by kernel_rfl) (by omega) (by omega) (by omega) ?_
      refine G.back (by kernel_rfl) (hJ5 (y + 1, es2.set y (qv f12)) _ _ _ ⟨by kernel_rfl, by kernel_rfl, by kernel_rfl⟩ ((l10.trans l11).trans l12) ⟨by dsimp only; omega, ?_, hb13⟩ (by dsimp only; omega))
      dsimp only
      rw [← mixR_set hsl (by omega), gR_sub _ _ _ (by omega)]
      exact (hAt.mono (fun _ _ k => k.mono (l11.trans l12))).set y k12
    obtain rfl : y = k := by omega
    refine G.lssF (y : Int) (y : Int) (by kernel_rfl) (by omega) ?_
    rw [mixR_all (by omega) hSl] at hAt
    rw [← oQ_set (es' := es2) hri] at hbk
    refine G.add (i : Int) 1 ((i + 1 : Nat) : Int) (by kernel_rfl) (by omega) (by omega) (by omega) ?_
    have hX4 : Rec n y (X3.set i (subR g (divR F R) S)) := rec_set hX3 hin (by omega)
    have hrow4 : ∀ x, gM (X3.set i (subR g (divR F R) S)) x = if i = x then subR g (divR F R) S else gM X3 x := fun x => gM_set (by rw [hX3.1]; exact hin)
    refine G.back (by kernel_rfl) (hJ4 (i + 1, rows3.set i ((Value.slice (some ⟨gi, 0, none⟩) y ci), es2), X3.set i (subR g (divR F R) S)) _ _ _ ⟨by kernel_rfl, by kernel_rfl, by kernel_rfl⟩ ((l8.trans l9).trans l10) ⟨by dsimp only; omega, hcl2, hX4, ?_, ?_, ?_, ?_, hbk⟩ (by dsimp only; omega))
    · dsimp only; rw [hrow4, if_neg hir]; exact hrr3
    · intro x j h1 h2 h3 h4
      dsimp only at h1 ⊢
      rw [hrow4, if_neg (by omega)]; exact hszi x j (by omega) h2 h3 h4
    · refine szM_of hX4 (fun x j hx hj => ?_)
      rw [hrow4]
      split
      · rw [gR_sub _ _ _ (by omega)]
        exact (sz_sub2 (hSz j hj) (sz_mul2 hgz (hdz j hj))).mono (by omega)
      · exact hsz3.at hX3 hx hj
    · exact (hQ3.mono (l9.trans l10)).set (i := i) (r := ((Value.slice (some ⟨gi, 0, none⟩) y ci), es2)) (by omega) hAt
  obtain rfl : i = n := by omega
  refine G.lssF (i : Int) (i : Int) (by kernel_rfl) (by omega) ?_
  rw [Nat.sub_self, clrGo] at hcl
  rw [← hcl] at hgo
  refine G.buildU 3 1 8 (.int .i64 0) [.int .i64 (c : Int)] (by kernel_rfl) (intsV_ok [c]) rfl (by omega) (by simp) (by simp) ?_
  intro g9 u9 l9 e9
  obtain ⟨m0, hx0, hbr⟩ := hbag3
  rw [pArr_at] at hx0
  have hil : (intsV P).length = P.length := by simp [intsV]
  refine G.append 3 1 8 (.int .i64 0) m0 (intsV P) [.int .i64 (c : Int)] (.slice pa P.length pc) g9 0 1 1 (by kernel_rfl) rfl rfl (by omega) hx0 e9 (intsV_ok [c]) rfl (by omega) (by omega) (by omega) ?_
  intro v10 m10 hx10
  rw [show intsV P ++ [Value.int .i64 (c : Int)] = intsV (P ++ [c]) by simp [intsV]] at hx10
  obtain ⟨a10, c10, rfl⟩ := hx10.shape
  have el : (intsV (P ++ [c])).length = (P ++ [c]).length := by simp [intsV]
  rw [el] at hx10 ⊢
  refine G.add (c : Int) 1 ((c + 1 : Nat) : Int) (by kernel_rfl) (by omega) (by omega) (by omega) ?_
  refine G.back (by kernel_rfl) (hJ ⟨c + 1, P ++ [c], a10, c10, rows3, X3, f6, d1 * F⟩ _ _ _ ⟨by kernel_rfl, by kernel_rfl, by kernel_rfl⟩ ((((((l2.trans l3).trans l4).trans l5).trans l6).trans l7).trans (l8.trans l9)) ⟨by dsimp only; omega, by simp; omega, hgo, hX3, ?_, ?_, k6.mono ((l7.trans l8).trans l9), hQ3.mono l9, m0, hx10, hbr⟩ (by dsimp only; omega))
  · dsimp only; rw [hE1]; exact hsz3
  · dsimp only; rw [hE1]; exact (sz_mul2 hsd1 hFz).mono (by omega)
end Go.Proofs.YtldokelpolbnnaaGreatDoor
end
section
set_option linter.unusedVariables false
set_option linter.unusedSimpArgs false
namespace Go.Proofs.YtldokelpolbnnaaGreatDoor
def In (N : Nat) (q : Rat) : Prop := ∃ z : Int, q = (z : Rat) ∧ z.natAbs ≤ N
theorem In.add {N M : Nat} {q r : Rat} (h : In N q) (h' : In M r) : In (N + M) (q + r) := by
  obtain ⟨z, rfl, hz⟩ := h
  obtain ⟨y, rfl, hy⟩ := h'
  exact ⟨z + y, by rw [Rat.intCast_add], by omega⟩
theorem In.neg {N : Nat} {q : Rat} (h : In N q) : In N (-q) := by
  obtain ⟨z, rfl, hz⟩ := h
  exact ⟨-z, by rw [Rat.intCast_neg], by omega⟩
theorem In.sub {N M : Nat} {q r : Rat} (h : In N q) (h' : In M r) : In (N + M) (q - r) := by
  rw [Rat.sub_eq_add_neg]; exact h.add h'.neg
theorem In.mul {N M : Nat} {q r : Rat} (h : In N q) (h' : In M r) : In (N * M) (q * r) := by
  obtain ⟨z, rfl, hz⟩ := h
  obtain ⟨y, rfl, hy⟩ := h'
  exact ⟨z * y, by rw [Rat.intCast_mul], by rw [Int.natAbs_mul]; exact Nat.mul_le_mul hz hy⟩
theorem In.zero : In 0 0 := ⟨0, by decide, by decide⟩
theorem In.one : In 1 1 := ⟨1, by decide, by decide⟩
theorem In.tx {N : Nat} {q : Rat} (h : In N q) (hN : N < 1000000000) : Tx q := by
  obtain ⟨z, rfl, hz⟩ := h
  refine ⟨?_, ?_⟩
  · have e : ((z : Int) : Rat).num = z := by simp
    rw [e]
    exact Nat.le_trans (dig_of_lt (k := 9) (by omega) (by omega)) (by omega)
  · have e : ((z : Int) : Rat).den = 1 := by simp
    rw [e]
    exact Nat.le_trans (dig_of_lt (k := 9) (by omega) (by omega)) (by omega)
theorem SmI.in {q : Rat} (h : SmI q) : In 3 q := by
  refine ⟨q.num, ?_, h.num⟩
  apply Rat.ext
  · simp
  · simp [h.den]
theorem len4 {α : Type} {l : List α} (h : l.length = 4) : ∃ a b c d, l = [a, b, c, d] := by
  match l, h with
  | [a, b, c, d], _ => exact ⟨a, b, c, d, rfl⟩
theorem sq4 {B : List (List Rat)} (h : SqN 4 B) : ∃ a b c d e f g h i j k l m n o p, B = [[a, b, c, d], [e, f, g, h], [i, j, k, l], [m, n, o, p]] := by
  obtain ⟨h1, h2⟩ := h
  obtain ⟨r, s, t, u, rfl⟩ := len4 h1
  obtain ⟨a, b, c, d, rfl⟩ := len4 (h2 r (by simp))
  obtain ⟨e, f, g, h, rfl⟩ := len4 (h2 s (by simp))
  obtain ⟨i, j, k, l, rfl⟩ := len4 (h2 t (by simp))
  obtain ⟨m, n, o, p, rfl⟩ := len4 (h2 u (by simp))
  exact ⟨a, b, c, d, e, f, g, h, i, j, k, l, m, n, o, p, rfl⟩
structure ProdOK (A : List (List Rat)) (n : Nat) : Prop where
  top : gR (charL A) n = 1
  tr : gR (charL A) (n - 1) = 0 - trL A
  det : gR (charL A) 0 = if n % 2 = 1 then 0 - dtm n (en A) else dtm n (en A)
  tx : ∀ q ∈ charL A, Tx q
  txt : Tx (trL A)
  txd : Tx (dtm n (en A))
theorem prod1 (a : Rat) (ha : In 3 a) : ProdOK [[a]] 1 := by
  have e1 : trL [[a]] = 0 + a := by simp [trL, trGo, gR, gM]
  have e2 : dtm 1 (en [[a]]) = a := by simp [dtm, en, gR, gM]
  refine ⟨by rw [char1]; rfl, by rw [char1, e1]; simp [gR]; grind, by rw [char1, e2]; simp [gR]; grind, ?_, by rw [e1]; exact (In.zero.add ha).tx (by omega), by rw [e2]; exact ha.tx (by omega)⟩
  rw [char1]
  intro q hq
  simp at hq
  rcases hq with rfl | rfl
  · exact ha.neg.tx (by omega)
  · exact In.one.tx (by omega)
theorem prod2 (a b c d : Rat) (ha : In 3 a) (hb : In 3 b) (hc : In 3 c) (hd : In 3 d) : ProdOK [[a, b], [c, d]] 2 := by
  have e1 : trL [[a, b], [c, d]] = 0 + a + d := by simp [trL, trGo, gR, gM]
  have e2 : dtm 2 (en [[a, b], [c, d]]) = a * d - b * c := by simp [dtm, en, gR, gM]
  have i2 : In _ (a * d - b * c) := (ha.mul hd).sub (hb.mul hc)
  refine ⟨by rw [char2]; rfl, by rw [char2, e1]; simp [gR]; grind, by rw [char2, e2]; simp [gR], ?_, by rw [e1]; exact ((In.zero.add ha).add hd).tx (by omega), by rw [e2]; exact i2.tx (by omega)⟩
  rw [char2]
  intro q hq
  simp at hq
  rcases hq with rfl | rfl | rfl
  · exact i2.tx (by omega)
  · exact (ha.neg.sub hd).tx (by omega)
  · exact In.one.tx (by omega)
theorem prod3 (a b c d e f g h i : Rat) (ha : In 3 a) (hb : In 3 b) (hc : In 3 c) (hd : In 3 d) (he : In 3 e) (hf : In 3 f) (hg : In 3 g) (hh : In 3 h) (hi : In 3 i) : ProdOK [[a, b, c], [d, e, f], [g, h, i]] 3 := by
  have e1 : trL [[a, b, c], [d, e, f], [g, h, i]] = 0 + a + e + i := by simp [trL, trGo, gR, gM]
  have e2 : dtm 3 (en [[a, b, c], [d, e, f], [g, h, i]]) = a * (e * i - f * h) - b * (d * i - f * g) + c * (d * h - e * g) := by simp [dtm, en, gR, gM]
  have i3 : In _ (a * (e * i - f * h) - b * (d * i - f * g) + c * (d * h - e * g)) := ((ha.mul ((he.mul hi).sub (hf.mul hh))).sub (hb.mul ((hd.mul hi).sub (hf.mul hg)))).add (hc.mul ((hd.mul hh).sub (he.mul hg)))
  refine ⟨by rw [char3]; rfl, by rw [char3, e1]; simp [gR]; grind, by rw [char3, e2]; simp [gR]; grind, ?_, by rw [e1]; exact (((In.zero.add ha).add he).add hi).tx (by omega), by rw [e2]; exact i3.tx (by omega)⟩
  rw [char3]
  intro q hq
  simp at hq
  rcases hq with rfl | rfl | rfl | rfl
  · exact i3.neg.tx (by omega)
  · exact ((((((ha.mul he).sub (hb.mul hd)).add (ha.mul hi)).sub (hc.mul hg)).add (he.mul hi)).sub (hf.mul hh)).tx (by omega)
  · exact ((ha.neg.sub he).sub hi).tx (by omega)
  · exact In.one.tx (by omega)
theorem in3 {a b c d e f g h i : Rat} (ha : In 3 a) (hb : In 3 b) (hc : In 3 c) (hd : In 3 d) (he : In 3 e) (hf : In 3 f) (hg : In 3 g) (hh : In 3 h) (hi : In 3 i) : In 162 (a * (e * i - f * h) - b * (d * i - f * g) + c * (d * h - e * g)) :=
  ((ha.mul ((he.mul hi).sub (hf.mul hh))).sub (hb.mul ((hd.mul hi).sub (hf.mul hg)))).add (hc.mul ((hd.mul hh).sub (he.mul hg)))
theorem prod4 (a b c d e f g h i j : Rat) (ha : In 3 a) (hb : In 3 b) (hc : In 3 c) (hd : In 3 d) (he : In 3 e) (hf : In 3 f) (hg : In 3 g) (hh : In 3 h) (hi : In 3 i) (hj : In 3 j) : ProdOK [[a, b, c, d], [b, e, f, g], [c, f, h, i], [d, g, i, j]] 4 := by
  have e1 : trL [[a, b, c, d], [b, e, f, g], [c, f, h, i], [d, g, i, j]] = 0 + a + e + h + j := by simp [trL, trGo, gR, gM]
  have hch := (char4_1 a b c d e f g h i j).trans ((char4_2 a b c d e f g h i j).trans ((char4_3 a b c d e f g h i j).trans (char4_4 a b c d e f g h i j)))
  have e0 : (fun x y => gR (gM [[a, b, c, d], [b, e, f, g], [c, f, h, i], [d, g, i, j]] x) y) = en [[a, b, c, d], [b, e, f, g], [c, f, h, i], [d, g, i, j]] := rfl
  rw [e0] at hch
  have i4 : In 1944 (dtm 4 (en [[a, b, c, d], [b, e, f, g], [c, f, h, i], [d, g, i, j]])) := by
    have e2 : dtm 4 (en [[a, b, c, d], [b, e, f, g], [c, f, h, i], [d, g, i, j]]) = a * (e * (h * j - i * i) - f * (f * j - i * g) + g * (f * i - h * g)) - b * (b * (h * j - i * i) - f * (c * j - i * d) + g * (c * i - h * d)) + c * (b * (f * j - i * g) - e * (c * j - i * d) + g * (c * g - f * d)) - d * (b * (f * i - h * g) - e * (c * i - h * d) + f * (c * g - f * d)) := by simp [dtm, en, gR, gM]
    rw [e2]
    exact (((ha.mul (in3 he hf hg hf hh hi hg hi hj)).sub (hb.mul (in3 hb hf hg hc hh hi hd hi hj))).add (hc.mul (in3 hb he hg hc hf hi hd hg hj))).sub (hd.mul (in3 hb he hf hc hf hh hd hg hi))
  refine ⟨by rw [hch]; rfl, by rw [hch, e1]; simp [gR]; grind, by rw [hch]; simp [gR], ?_, by rw [e1]; exact ((((In.zero.add ha).add he).add hh).add hj).tx (by omega), i4.tx (by omega)⟩
  rw [hch]
  intro q hq
  simp only [List.mem_cons, List.not_mem_nil, or_false] at hq
  rcases hq with rfl | rfl | rfl | rfl | rfl
  · exact i4.tx (by omega)
  · exact ((((in3 he hf hg hf hh hi hg hi hj).neg.sub (in3 ha hc hd hc hh hi hd hi hj)).sub (in3 ha hb hd hb he hg hd hg hj)).sub (in3 ha hb hc hb he hf hc hf hh)).tx (by omega)
  · exact ((((((((((((ha.mul he).sub (hb.mul hb)).add (ha.mul hh)).sub (hc.mul hc)).add (ha.mul hj)).sub (hd.mul hd)).add (he.mul hh)).sub (hf.mul hf)).add (he.mul hj)).sub (hg.mul hg)).add (hh.mul hj)).sub (hi.mul hi)).tx (by omega)
  · exact (((ha.neg.sub he).sub hh).sub hj).tx (by omega)
  · exact In.one.tx (by omega)
theorem prod_all {A : List (List Rat)} {n : Nat} (hl : A.length = n) (h0 : 1 ≤ n) (h4 : n ≤ 4) (hT : ThinOK A n) (hs : ∀ i j, j < i → i < n → gR (gM A i) j = gR (gM A j) i) : ProdOK A n := by
  have hq := thin_sq hl hT
  have hin : ∀ i, i < A.length → ∀ q ∈ gM A i, In 3 q := fun i hi q hq => ((hT i hi).2 q hq).in
  match n, h0, h4 with
  | 1, _, _ =>
    obtain ⟨a, rfl⟩ := sq1 hq
    exact prod1 a (hin 0 (by simp) a (by simp [gM]))
  | 2, _, _ =>
    obtain ⟨a, b, c, d, rfl⟩ := sq2 hq
    exact prod2 a b c d (hin 0 (by simp) a (by simp [gM])) (hin 0 (by simp) b (by simp [gM])) (hin 1 (by simp) c (by simp [gM])) (hin 1 (by simp) d (by simp [gM]))
  | 3, _, _ =>
    obtain ⟨a, b, c, d, e, f, g, h, i, rfl⟩ := sq3 hq
    exact prod3 a b c d e f g h i (hin 0 (by simp) a (by simp [gM])) (hin 0 (by simp) b (by simp [gM])) (hin 0 (by simp) c (by simp [gM])) (hin 1 (by simp) d (by simp [gM])) (hin 1 (by simp) e (by simp [gM])) (hin 1 (by simp) f (by simp [gM])) (hin 2 (by simp) g (by simp [gM])) (hin 2 (by simp) h (by simp [gM])) (hin 2 (by simp) i (by simp [gM]))
  | 4, _, _ =>
    obtain ⟨a, b, c, d, b', e, f, g, c', f', h, i, d', g', i', j, rfl⟩ := sq4 hq
    obtain rfl : b' = b := hs 1 0 (by omega) (by omega)
    obtain rfl : c' = c := hs 2 0 (by omega) (by omega)
    obtain rfl : d' = d := hs 3 0 (by omega) (by omega)
    obtain rfl : f' = f := hs 2 1 (by omega) (by omega)
    obtain rfl : g' = g := hs 3 1 (by omega) (by omega)
    obtain rfl : i' = i := hs 3 2 (by omega) (by omega)
    exact prod4 _ _ _ _ _ _ _ _ _ _ (hin 0 (by simp) _ (by simp [gM])) (hin 0 (by simp) _ (by simp [gM])) (hin 0 (by simp) _ (by simp [gM])) (hin 0 (by simp) _ (by simp [gM])) (hin 1 (by simp) e (by simp [gM])) (hin 1 (by simp) _ (by simp [gM])) (hin 1 (by simp) _ (by simp [gM])) (hin 2 (by simp) h (by simp [gM])) (hin 2 (by simp) _ (by simp [gM])) (hin 3 (by simp) j (by simp [gM]))
end Go.Proofs.YtldokelpolbnnaaGreatDoor
end
section
set_option linter.unusedSectionVars false
set_option linter.unusedVariables false
namespace Go.Proofs.YtldokelpolbnnaaGreatDoor
open Go.RowKit
theorem sq_rec {A : List (List Rat)} (hs : Sq A) : Rec A.length A.length A := ⟨rfl, fun i hi => by rw [gM_at hi]; exact hs.len hi⟩
theorem szM_tw {A : List (List Rat)} (hs : Sq A) (hT : ∀ r ∈ A, ∀ q ∈ r, Tw q) : SzM A 12 := szM_of (sq_rec hs) (fun i j hi hj => by
  have hj' : j < A[i].length := by rw [hs.len hi]; exact hj
  rw [gM_at hi, gR_at hj']
  exact (hT _ (List.getElem_mem hi) _ (List.getElem_mem hj')).sz)
theorem es12 {n : Nat} (h : n ≤ 4) : es 12 n ≤ 1000000000 := Nat.le_trans (es_le 12 h) (by decide)
set_option maxHeartbeats 4000000 in
theorem refDet0 {u : PH} {v : Value} {A : List (List Rat)} (h : MatP u v (matT A)) (hs : Sq A) (hT : ∀ r ∈ A, ∀ q ∈ r, Tw q) (h4 : A.length ≤ 4) (hd : Tx (dtm A.length (en A))) : Fn0 Tryz.prog 33 [v] u fun v' _ => v' = .tuple #[.string (mkS (ratT (dtm A.length (en A)))), .int .i64 0] := by
  obtain ⟨a, c, rfl⟩ := h.opn
  rw [matT_length] at h ⊢
  refine Fn0.of Tryz.func33 (by kernel_rfl) (by kernel_rfl) ?_
  refine G.call0 _ _ (by kernel_rfl) Tryz.call67 (refShape0 h hs) ?_
  rintro v1 u1 l1 rfl
  refine G.neqF 0 0 (by kernel_rfl) (by omega) ?_
  refine G.neqF (A.length : Int) (A.length : Int) (by kernel_rfl) (by omega) ?_
  refine G.call0 _ _ (by kernel_rfl) Tryz.call72 (refHeavy0 (n := A.length) (h.mono l1) hs hT (by omega)) ?_
  rintro v2 u2 l2 rfl
  refine G.callO _ _ (by kernel_rfl) Tryz.call71 (refReadM0 (h.mono (l1.trans l2)) hs) ?_
  rintro v3 u3 m3 l3 ⟨a3, c3, rows, rfl, hQ, hbag⟩ _
  rw [mt_or]
  refine G.callA _ _ (by kernel_rfl) (by kernel_rfl) Tryz.call73 (mt_or _).symm (apart_mt _) (refElim0 (sq_rec hs) (by omega) (by omega) (Nat.le_refl _) (szM_tw hs hT) (by omega) (es12 h4) hQ hbag) ?_
  rintro v4 u4 m4 l4 ⟨pa, pc, f, rows', rfl, hq, _, _⟩ _
  rw [mt_or]
  have hdet := elim_det h4 A.length 0 [] A 1 (by omega) rfl (sq_rec hs) (fun i j _ hj => absurd hj (Nat.not_lt_zero _))
  rw [show (1 : Rat) * dtm A.length (en A) = dtm A.length (en A) by grind] at hdet
  have hlen := elim_len A.length 0 [] A 1
  rw [List.length_nil, Nat.zero_add] at hlen
  generalize elimGo A.length 0 [] A 1 = E at *
  by_cases hlt : E.1.length < A.length
  · rw [if_pos hlt] at hdet
    refine G.lssT (E.1.length : Int) (A.length : Int) (by kernel_rfl) (by omega) ?_
    refine G.drop PH.mt (by kernel_rfl) (PH.mt_le _) ?_
    exact G.ret (.tuple #[.string (mkS [48]), .int .i64 0]) (by kernel_rfl) ⟨rfl, by rw [hdet, ratT_zero]⟩
  · rw [if_neg hlt] at hdet
    refine G.lssF (E.1.length : Int) (A.length : Int) (by kernel_rfl) (by omega) ?_
    rw [← hdet] at hq
    refine G.call0 _ _ (by kernel_rfl) Tryz.call41 (refGive0 hq hd) ?_
    rintro v5 u5 l5 rfl
    refine G.drop PH.mt (by kernel_rfl) (PH.mt_le _) ?_
    exact G.ret (.tuple #[.string (mkS (ratT (dtm A.length (en A)))), .int .i64 0]) (by kernel_rfl) ⟨rfl, rfl⟩
end Go.Proofs.YtldokelpolbnnaaGreatDoor
end
section
set_option linter.unusedSectionVars false
set_option linter.unusedVariables false
namespace Go.Proofs.YtldokelpolbnnaaGreatDoor
open Go.RowKit
theorem thin_tw {B : List (List Rat)} {n : Nat} (hT : ThinOK B n) : ∀ r ∈ B, ∀ q ∈ r, Tw q := fun r hr q hq => by
  obtain ⟨i, hi, rfl⟩ := List.mem_iff_getElem.1 hr
  rw [← gM_at hi] at hq
  exact ((hT i hi).2 q hq).smR.tw
theorem gR_tx {l : List Rat} (h : ∀ q ∈ l, Tx q) {i : Nat} (hi : i < l.length) : Tx (gR l i) := h _ (gR_mem hi)
theorem tx_zero : Tx 0 := In.zero.tx (by omega)
set_option maxHeartbeats 8000000 in
theorem products0 {u : PH} {v : Value} {ts : List Int} (ht : TabU u) (hv : ListP u v 1 (intsZ ts)) (hlo : ∀ t ∈ ts, -9223372036854775808 ≤ t) (hhi : ∀ t ∈ ts, t ≤ 9223372036854775807) :
    Fn0 Tryz.prog 7 [v] u fun v' _ => v' = .bool true := by
  obtain ⟨a, c, rfl⟩ := hv.opn
  rw [intsZ_length] at hv ⊢
  refine Fn0.of Tryz.func7 (by kernel_rfl) (by kernel_rfl) ?_
  by_cases h400 : 400 < ts.length
  · refine G.gtrT (ts.length : Int) 400 (by kernel_rfl) (by omega) ?_
    refine G.call0 _ _ (by kernel_rfl) Tryz.call8 (sane0 ht) ?_
    rintro v1 u1 l1 rfl
    exact G.ret (.bool true) (by kernel_rfl) ⟨rfl, rfl⟩
  refine G.gtrF (ts.length : Int) 400 (by kernel_rfl) (by omega) ?_
  refine G.callO _ _ (by kernel_rfl) Tryz.call9 (srcNew0 hv (by omega) hlo hhi) ?_
  rintro v1 u1 m1 l1 ⟨s, rfl, rfl, hs⟩ _
  rw [mt_or]
  refine G.callA _ _ (by kernel_rfl) (by kernel_rfl) Tryz.call10 (mt_or _).symm (apart_mt _) (srcN0 (n := 4) hs (Nat.zero_le _) (by omega) (by omega)) ?_
  rintro v2 u2 m2 l2 ⟨r, k2, rfl, hr, hk2, rfl⟩ _
  rw [mt_or]
  obtain ⟨n, hn⟩ : ∃ n, n = r + 1 := ⟨_, rfl⟩
  refine G.add 1 (r : Int) (n : Int) (by kernel_rfl) (by omega) (by omega) (by omega) ?_
  refine G.callA _ _ (by kernel_rfl) (by kernel_rfl) Tryz.call22 (mt_or _).symm (apart_mt _) (srcSymmetric0 (n := n) (hs.mono l2) hk2 (by omega) (by omega)) ?_
  rintro v3 u3 m3 l3 ⟨A, k3, hA, hAl, hAT, hAs, hk3, rfl⟩ _
  rw [mt_or]
  have hn4 : n ≤ 4 := by omega
  have hP := prod_all hAl (by omega) hn4 hAT hAs
  have hN := niceThin hAl hn4 hAT hAs
  have hTw := thin_tw hAT
  subst hAl
  obtain ⟨aA, cA, rfl⟩ := hA.opn
  rw [matT_length] at hA ⊢
  have hcl : (charL A).length = A.length + 1 := charL_length A
  refine G.call0 _ _ (by kernel_rfl) Tryz.call16 (polynomial0 (ht.mono ((l1.trans l2).trans l3)) hA hN hP.tx) ?_
  rintro v4 u4 l4 ⟨r4, rfl, kp⟩
  obtain ⟨ap, cp, rfl⟩ := ListP.opn kp
  have hpl : (strsV ((charL A).map ratT)).length = A.length + 1 := by simp [strsV, hcl]
  rw [hpl] at kp ⊢
  refine G.call0 _ _ (by kernel_rfl) Tryz.call33 (refDet0 (hA.mono l4) hN.sq hTw hn4 hP.txd) ?_
  rintro v5 u5 l5 rfl
  refine G.call0 _ _ (by kernel_rfl) Tryz.call34 (trace0 (ht.mono (((l1.trans l2).trans l3).trans (l4.trans l5))) (hA.mono (l4.trans l5)) hN.sq (fun r hr q hq => (hTw r hr q hq).sz.mono (by omega)) hP.txt) ?_
  rintro v6 u6 l6 rfl
  have hkp : ∀ u', PH.le u4 u' → ∀ j, j < A.length + 1 → ∃ b off, ap = some ⟨b, off, none⟩ ∧ ElP u' b (off + j * 1) (.string (mkS (ratT (gR (charL A) j)))) := fun u' hl j hj =>
    ListP.at' (ListP.mono kp hl) (j := j) (by simp [strsV, List.getElem?_eq_getElem (show j < (charL A).length by omega), gR_at (show j < (charL A).length by omega)])
  refine G.neqF 0 0 (by kernel_rfl) (by omega) ?_
  refine G.neqF 0 0 (by kernel_rfl) (by omega) ?_
  refine G.neqF 0 0 (by kernel_rfl) (by omega) ?_
  refine G.add (A.length : Int) 1 ((A.length + 1 : Nat) : Int) (by kernel_rfl) (by omega) (by omega) (by omega) ?_
  refine G.neqF ((A.length + 1 : Nat) : Int) ((A.length + 1 : Nat) : Int) (by kernel_rfl) (by omega) ?_
  obtain ⟨bp, op, rfl, e1⟩ := hkp u6 (l5.trans l6) A.length (by omega)
  refine G.addr bp op (A.length + 1) cp A.length 1 (by kernel_rfl) (by omega) ?_
  refine G.loadU none bp (op + A.length * 1) _ (by kernel_rfl) (by kernel_rfl) e1 ?_
  refine G.neSF (ratT (gR (charL A) A.length)) [49] (by kernel_rfl) (by rw [hP.top, ratT_one]) ?_
  refine G.remZ (A.length : Int) 2 ((A.length % 2 : Nat) : Int) (by kernel_rfl) (by omega) (by omega) (by rw [Int.tmod_eq_emod_of_nonneg (by omega)]; rfl) ?_
  refine G.join (ι := Unit) (.bool false) (fun _ => [(4, .v (.int .i64 (A.length : Int))), (6, .v (.slice (some ⟨bp, op, none⟩) (A.length + 1) cp)), (8, .v (.string (mkS (ratT (gR (charL A) 0))))), (10, .v (.string (mkS (ratT (trL A)))))]) (fun _ => [])
    (fun _ u' m' => True) (fun _ => by kernel_rfl) (by kernel_rfl) ?tail ?way
  case way =>
    intro hjoin
    by_cases hodd : A.length % 2 = 1
    · have hd := hP.det
      rw [if_pos hodd] at hd
      have hsub := fun u' => refSubT (u := u') tx_zero hP.txd (by rw [← hd]; exact gR_tx hP.tx (by omega))
      rw [ratT_zero, ← hd] at hsub
      refine G.eqlT ((A.length % 2 : Nat) : Int) 1 (by kernel_rfl) (by omega) ?_
      refine G.call0 _ _ (by kernel_rfl) Tryz.call31 (hsub _) ?_
      rintro v7 u7 l7 rfl
      exact hjoin () _ _ _ (by kernel_rfl) ⟨by kernel_rfl, by kernel_rfl, by kernel_rfl⟩ l7 trivial
    · have hd := hP.det
      rw [if_neg hodd] at hd
      rw [← hd]
      refine G.eqlF ((A.length % 2 : Nat) : Int) 1 (by kernel_rfl) (by omega) ?_
      exact hjoin () _ _ _ (by kernel_rfl) ⟨by kernel_rfl, by kernel_rfl, by kernel_rfl⟩ (PH.le_refl _) trivial
  intro _ u7 m7 l7 _
  have htr := hP.tr
  have hsub := fun u' => refSubT (u := u') tx_zero hP.txt (by rw [← htr]; exact gR_tx hP.tx (by omega))
  rw [ratT_zero, ← htr] at hsub
  refine G.call0 _ _ (by kernel_rfl) Tryz.call31 (hsub _) ?_
  rintro v8 u8 l8 rfl
  obtain ⟨_, _, e, e2⟩ := hkp u8 (((l5.trans l6).trans l7).trans l8) 0 (by omega)
  cases e
  refine G.addr bp op (A.length + 1) cp 0 1 (by kernel_rfl) (by omega) ?_
  refine G.loadU none bp (op + 0 * 1) _ (by kernel_rfl) (by kernel_rfl) e2 ?_
  refine G.eqST (ratT (gR (charL A) 0)) (ratT (gR (charL A) 0)) (by kernel_rfl) rfl ?_
  refine G.sub (A.length : Int) 1 ((A.length - 1 : Nat) : Int) (by kernel_rfl) (by omega) (by omega) (by omega) ?_
  obtain ⟨_, _, e, e3⟩ := hkp u8 (((l5.trans l6).trans l7).trans l8) (A.length - 1) (by omega)
  cases e
  refine G.addr bp op (A.length + 1) cp (A.length - 1) 1 (by kernel_rfl) (by omega) ?_
  refine G.loadU none bp (op + (A.length - 1) * 1) _ (by kernel_rfl) (by kernel_rfl) e3 ?_
  refine G.eqST (ratT (gR (charL A) (A.length - 1))) (ratT (gR (charL A) (A.length - 1))) (by kernel_rfl) rfl ?_
  refine G.call0 _ _ (by kernel_rfl) Tryz.call8 (sane0 (ht.mono (((((((l1.trans l2).trans l3).trans l4).trans l5).trans l6).trans l7).trans l8))) ?_
  rintro v9 u9 l9 rfl
  refine G.drop PH.mt (by kernel_rfl) (PH.mt_le _) ?_
  exact G.ret (.bool true) (by kernel_rfl) ⟨rfl, rfl⟩
end Go.Proofs.YtldokelpolbnnaaGreatDoor
end
