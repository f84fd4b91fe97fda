/- Joined out of parts of one proof by a program: contracts of the functions that the statement reaches, and the plain facts behind them. -/
import Derived.Test.YtldokelpolbnnaaGreatDoorJE07
set_option linter.unusedVariables false
set_option linter.unusedSimpArgs false
set_option linter.unusedSectionVars false
section
set_option linter.unusedSectionVars false
set_option linter.unusedVariables false
namespace Go.Proofs.YtldokelpolbnnaaGreatDoor
open Go.RowKit
section lists
variable {α : Type} {R : PH → Value → α → Prop} {u u' : PH}
def AtP (R : PH → Value → α → Prop) (u : PH) (es : List Value) (xs : List α) : Prop := es.length = xs.length ∧ ∀ (j : Nat) (x : α), xs[j]? = some x → ∃ e, es[j]? = some e ∧ R u e x
theorem AtP.nil : AtP R u [] [] := ⟨rfl, fun j x h => by simp at h⟩
theorem AtP.mono {es : List Value} {xs : List α} (hR : ∀ e x, R u e x → R u' e x) (h : AtP R u es xs) : AtP R u' es xs :=
 ⟨h.1, fun j x hj => by obtain ⟨e, h1, h2⟩ := h.2 j x hj; exact ⟨e, h1, hR e x h2⟩⟩
theorem AtP.snoc {es : List Value} {xs : List α} {e : Value} {x : α} (h : AtP R u es xs) (he : R u e x) : AtP R u (es ++ [e]) (xs ++ [x]) := by
 refine ⟨by simp [h.1], fun j r hj => ?_⟩
 by_cases hjl : j < xs.length
 ·rw [List.getElem?_append_left hjl] at hj
  obtain ⟨e', h1, h2⟩ := h.2 j r hj
  exact ⟨e', by rw [List.getElem?_append_left (by rw [h.1]; exact hjl)]; exact h1, h2⟩
 ·rw [List.getElem?_append_right (by omega)] at hj
  have : j - xs.length = 0 := by
   rcases Nat.eq_zero_or_pos (j - xs.length) with h0 | h0
   ·exact h0
   ·rw [List.getElem?_eq_none (by simp; omega)] at hj; cases hj
  rw [this] at hj; simp at hj; subst hj
  refine ⟨e, ?_, he⟩
  rw [List.getElem?_append_right (by rw [h.1]; omega), h.1, this]; rfl
theorem AtP.set {es : List Value} {xs : List α} {e : Value} {x : α} (h : AtP R u es xs) (k : Nat) (he : R u e x) : AtP R u (es.set k e) (xs.set k x) := by
 refine ⟨by simp [h.1], fun j r hj => ?_⟩
 rw [List.getElem?_set] at hj ⊢
 split at hj
 ·rename_i e'
  subst e'
  split at hj
  ·rename_i hlt
   simp only [Option.some.injEq] at hj; subst hj
   exact ⟨e, by rw [if_pos rfl, if_pos (by rw [h.1]; exact hlt)], he⟩
  ·cases hj
 ·rename_i e'
  rw [if_neg e']
  exact h.2 j r hj
def LP (R : PH → Value → α → Prop) (sz : Nat) (u : PH) (v : Value) (xs : List α) : Prop := ∃ es, ListP u v sz es ∧ AtP R u es xs
theorem LP.mono {sz : Nat} {v : Value} {xs : List α} (hR : ∀ e x, R u e x → R u' e x) (h : LP R sz u v xs) (hl : PH.le u u') : LP R sz u' v xs := by
 obtain ⟨es, h1, h2⟩ := h; exact ⟨es, h1.mono hl, h2.mono hR⟩
theorem LP.opn {sz : Nat} {v : Value} {xs : List α} (h : LP R sz u v xs) : ∃ a c, v = .slice a xs.length c := by
 obtain ⟨es, h1, h2⟩ := h
 obtain ⟨a, c, rfl⟩ := h1.opn
 exact ⟨a, c, by rw [h2.1]⟩
theorem LP.at {sz : Nat} {a : Option Addr} {n c : Nat} {xs : List α} (h : LP R sz u (.slice a n c) xs) {j : Nat} {x : α} (hj : xs[j]? = some x) : ∃ b off e, a = some ⟨b, off, none⟩ ∧ ElP u b (off + j * sz) e ∧ R u e x := by
 obtain ⟨es, h1, h2⟩ := h
 obtain ⟨e, e1, e2⟩ := h2.2 j x hj
 obtain ⟨b, off, rfl, e3⟩ := h1.at' e1
 exact ⟨b, off, e, rfl, e3, e2⟩
end lists
def NumsP (u : PH) (v : Value) (zs : List Int) : Prop := LP NumP 2 u v zs
def NMatP (u : PH) (v : Value) (zs : List (List Int)) : Prop := LP NumsP 1 u v zs
def FMatP (u : PH) (v : Value) (qs : List (List Rat)) : Prop := LP FracsP 1 u v qs
theorem NumsP.mono {u u' : PH} {v : Value} {zs : List Int} (h : NumsP u v zs) (hl : PH.le u u') : NumsP u' v zs := LP.mono (fun _ _ h => h.mono hl) h hl
theorem NMatP.mono {u u' : PH} {v : Value} {zs : List (List Int)} (h : NMatP u v zs) (hl : PH.le u u') : NMatP u' v zs := LP.mono (fun _ _ h => h.mono hl) h hl
theorem FMatP.mono {u u' : PH} {v : Value} {zs : List (List Rat)} (h : FMatP u v zs) (hl : PH.le u u') : FMatP u' v zs := LP.mono (fun _ _ h => h.mono hl) h hl
theorem FracsP.lp {u : PH} {v : Value} {qs : List Rat} (h : FracsP u v qs) : LP FracP 4 u v qs := h
theorem slice_ok (a : Option Addr) (n c : Nat) : ElsOK 1 [.slice a n c] := rows_ok (by intro e he; simp at he; exact ⟨_, _, _, he⟩)
theorem ArrAt.some' {m0 m : PH} {t : TypeId} {sz : Nat} {es : List Value} {a : Addr} {n c : Nat} (ha : ArrAt m0 m (.slice (some a) n c) t sz es) : ∃ g, a = ⟨g, 0, none⟩ ∧ m0 g = none := by
 rcases ha.2 with ⟨h, _, _⟩ | ⟨g, cap, rest, h0, _, h, _⟩
 ·simp at h
 ·simp only [Value.slice.injEq, Option.some.injEq] at h
  exact ⟨g, h.1, h0⟩
theorem set_fill {α : Type} {l : List α} {j n : Nat} {e z : α} (hl : l.length = j) (hj : j < n) : (l ++ List.replicate (n - j) z).set j e = l ++ [e] ++ List.replicate (n - (j + 1)) z := by
 subst hl
 rw [show n - l.length = (n - (l.length + 1)) + 1 by omega, List.replicate_succ]
 rw [List.set_append_right _ _ (Nat.le_refl _)]
 simp
theorem lcm_eq (d e : Nat) : ((d : Int) / ((Nat.gcd (d : Int).natAbs (e : Int).natAbs : Nat) : Int) * (e : Int)) = ((Nat.lcm d e : Nat) : Int) := by
 rw [Int.natAbs_natCast, Int.natAbs_natCast, Nat.lcm, ← Nat.div_mul_right_comm (Nat.gcd_dvd_left d e)]
 push_cast
 rfl
def TabP (u : PH) (v : Value) (D : Nat) (cs : List (List Int)) : Prop := ∃ b a n c a' n' c', v = .agg #[.bool b, .slice a n c, .slice a' n' c'] ∧ NumP u (.agg #[.bool b, .slice a n c]) (D : Int) ∧ NMatP u (.slice a' n' c') cs
def cellsOf (D : Nat) (r : List Rat) : List Int := r.map fun q => q.num * ((D / q.den : Nat) : Int)
structure DI where
 b : Bool
 a : Option Addr
 n : Nat
 c : Nat
 D : Nat
def denV (d : DI) : Value := .agg #[.bool d.b, .slice d.a d.n d.c]
def DenOK (u : PH) (d : DI) (L : Nat) : Prop := NumP u (denV d) (d.D : Int) ∧ 0 < d.D ∧ d.D ∣ L
theorem DenOK.mono {u u' : PH} {d : DI} {L : Nat} (h : DenOK u d L) (hl : PH.le u u') : DenOK u' d L := ⟨h.1.mono hl, h.2⟩
set_option maxHeartbeats 4000000 in
theorem elimOf0 {u : PH} {v : Value} {A : List (List Rat)} {L : Nat} (h : MatP u v (matT A)) (hT : ∀ r ∈ A, ∀ q ∈ r, Tx q) (hl : A.length ≤ 1000000) (hl2 : ∀ r ∈ A, r.length ≤ 1000000) (hL : ∀ r ∈ A, ∀ q ∈ r, q.den ∣ L) (hL0 : 0 < L) (hLs : nl L ≤ 1000000000) :
  Fn0 Tryz.prog 88 [v] u fun v' u' => ∃ D, 0 < D ∧ D ∣ L ∧ (∀ r ∈ A, ∀ q ∈ r, q.den ∣ D) ∧ TabP u' v' D (A.map (cellsOf D)) := by
 obtain ⟨a, c, rfl⟩ := h.opn
 rw [matT_length] at h ⊢
 have hDs : ∀ D : Nat, D ∣ L → nl (D : Int).natAbs ≤ 1000000000 := fun D hD => Nat.le_trans (nl_mono (Nat.le_of_dvd hL0 hD)) hLs
 refine Fn0.of Tryz.func88 (by kernel_rfl) (by kernel_rfl) ?_
 refine G.call0 _ _ (by kernel_rfl) Tryz.call87 (numOf0 (z := 1) (by omega) (by omega)) ?_
 intro v1 u1 l1 k1
 obtain ⟨b1, a1, n1, c1, rfl⟩ := k1.opn
 refine G.loop (ι := Nat × List Value × (Option Addr × Nat × Nat) × DI)
  (fun i => [(2, .p 0 0), (3, .p 1002 0), (4, .v (.slice i.2.2.1.1 i.2.2.1.2.1 i.2.2.1.2.2)), (19, .v (.slice a A.length c)), (20, .v (.int .i64 (A.length : Int))), (21, .v (.int .i64 (i.1 : Int)))])
  (fun i => [(0, ⟨134, [.v (.bool false), .v (.slice none 0 0), .v (.slice none 0 0)]⟩), (1002, ⟨134, [.v (.bool i.2.2.2.b), .v (.slice i.2.2.2.a i.2.2.2.n i.2.2.2.c), .v (.slice none 0 0)]⟩)])
  (fun i u' m' => i.1 ≤ A.length ∧ AtP FracsP u' i.2.1 (A.take i.1) ∧ ArrAt PH.mt m' (.slice i.2.2.1.1 i.2.2.1.2.1 i.2.2.1.2.2) 81 1 i.2.1 ∧ DenOK u' i.2.2.2 L ∧ ∀ r ∈ A.take i.1, ∀ q ∈ r, q.den ∣ i.2.2.2.D)
  (fun i => A.length - i.1) (0, [], (none, 0, 0), ⟨b1, a1, n1, c1, 1⟩) (by kernel_rfl) (fun _ => by kernel_rfl) ⟨by kernel_rfl, by kernel_rfl, by kernel_rfl⟩
  ⟨Nat.zero_le _, AtP.nil, ArrAt.nil _ _ _, ⟨k1, Nat.one_pos, Nat.one_dvd _⟩, fun r hr => by simp at hr⟩ ?_
 rintro J ⟨k, vals, ⟨a2, n2, c2⟩, ⟨db, da, dn, dc, D⟩⟩ hJ u2 m2 l2 ⟨hk, hF, hA, hD, hdv⟩
 simp only at hk hF hA hD hdv hJ
 have hel := hF.1
 rw [List.length_take] at hel
 by_cases hlt : k < A.length
 ·refine G.lssT (k : Int) (A.length : Int) (by kernel_rfl) (by omega) ?_
  have htk : A[k]? = some A[k] := List.getElem?_eq_getElem hlt
  have hmem := List.getElem_mem hlt
  obtain ⟨ba, oa, a3, c3, rfl, e3, s3⟩ := (h.mono (l1.trans l2)).row (matT_at htk)
  rw [List.length_map] at e3 s3
  refine G.addr ba oa A.length c k 1 (by kernel_rfl) (by omega) ?_
  refine G.loadU none ba (oa + k * 1) _ (by kernel_rfl) (by kernel_rfl) e3 ?_
  refine G.call0 _ _ (by kernel_rfl) Tryz.call91 (fracList0 s3 (hT _ hmem) (hl2 _ hmem)) ?_
  intro v4 u4 l4 k4
  obtain ⟨a4, c4, rfl⟩ := k4.lp.opn
  refine G.loop (ι := Nat × DI)
   (fun i => [(2, .p 0 0), (3, .p 1002 0), (4, .v (.slice a2 n2 c2)), (19, .v (.slice (some ⟨ba, oa, none⟩) A.length c)), (20, .v (.int .i64 (A.length : Int))), (21, .v (.int .i64 (k : Int))), (7, .v (.slice a4 A[k].length c4)), (27, .v (.slice a4 A[k].length c4)), (28, .v (.int .i64 (A[k].length : Int))), (29, .v (.int .i64 (i.1 : Int)))])
   (fun i => [(0, ⟨134, [.v (.bool false), .v (.slice none 0 0), .v (.slice none 0 0)]⟩), (1002, ⟨134, [.v (.bool i.2.b), .v (.slice i.2.a i.2.n i.2.c), .v (.slice none 0 0)]⟩)])
   (fun i u' m' => i.1 ≤ A[k].length ∧ m' = m2 ∧ DenOK u' i.2 L ∧ (∀ r ∈ A.take k, ∀ q ∈ r, q.den ∣ i.2.D) ∧ ∀ q ∈ A[k].take i.1, q.den ∣ i.2.D)
   (fun i => A[k].length - i.1) (0, ⟨db, da, dn, dc, D⟩) (by kernel_rfl) (fun _ => by kernel_rfl) ⟨by kernel_rfl, by kernel_rfl, by kernel_rfl⟩
   ⟨Nat.zero_le _, rfl, hD.mono l4, hdv, fun q hq => by simp at hq⟩ ?_
  rintro J2 ⟨j, ⟨eb, ea, en, ec, E⟩⟩ hJ2 u5 m5 l5 ⟨hj, rfl, hE, hev, hrv⟩
  simp only at hj hE hev hrv hJ2
  by_cases hlt2 : j < A[k].length
  ·refine G.lssT (j : Int) (A[k].length : Int) (by kernel_rfl) (by omega) ?_
   have hqj : A[k][j]? = some A[k][j] := List.getElem?_eq_getElem hlt2
   have hqm := List.getElem_mem hlt2
   have htx := hT _ hmem _ hqm
   obtain ⟨b6, o6, e6, rfl, h6, f6⟩ := (k4.mono l5).lp.at hqj
   obtain ⟨x1, x2, x3, x4, x5, x6, x7, x8, rfl⟩ := f6.opn
   refine G.addr b6 o6 A[k].length c4 j 4 (by kernel_rfl) hlt2 ?_
   refine G.loadU (some 4) b6 (o6 + j * 4) _ (by kernel_rfl) (by kernel_rfl) h6 ?_
   refine G.call0 _ _ (by kernel_rfl) Tryz.call135 (fracDen0 f6) ?_
   intro v7 u7 l7 k7
   obtain ⟨b7, a7, n7, c7, rfl⟩ := k7.opn
   refine G.call0 _ _ (by kernel_rfl) Tryz.call134 (numLcm0 ((hE.mono l7).1) k7 (Nat.le_trans (hDs _ hE.2.2) (by omega)) (Nat.le_trans (nl_of_dig htx.den) (by omega)) (by have := hE.2.1; dsimp only at this ⊢; omega)) ?_
   intro v8 u8 l8 k8
   rw [lcm_eq] at k8
   obtain ⟨b8, a8, n8, c8, rfl⟩ := k8.opn
   refine G.add (j : Int) 1 ((j + 1 : Nat) : Int) (by kernel_rfl) (by omega) (by omega) (by have := hl2 _ hmem; omega) ?_
   refine G.back (by kernel_rfl) (hJ2 (j + 1, ⟨b8, a8, n8, c8, Nat.lcm E A[k][j].den⟩) _ _ _ ⟨by kernel_rfl, by kernel_rfl, by kernel_rfl⟩ ((l5.trans l7).trans l8) ⟨by dsimp only; omega, rfl, ⟨k8, ?_, ?_⟩, ?_, ?_⟩ (by dsimp only; omega))
   ·have := hE.2.1
    simp only at this ⊢
    exact Nat.lcm_pos this (A[k][j]).den_pos
   ·exact Nat.lcm_dvd hE.2.2 (hL _ hmem _ hqm)
   ·exact fun r hr q hq => Nat.dvd_trans (hev r hr q hq) (Nat.dvd_lcm_left _ _)
   ·intro q hq
    dsimp only at hq ⊢
    rw [List.take_add_one, hqj] at hq
    rcases List.mem_append.1 hq with hq | hq
    ·exact Nat.dvd_trans (hrv q hq) (Nat.dvd_lcm_left _ _)
    ·simp at hq; subst hq; exact Nat.dvd_lcm_right _ _
  ·have : j = A[k].length := by omega
   subst this
   rw [List.take_length] at hrv
   refine G.lssF (A[k].length : Int) (A[k].length : Int) (by kernel_rfl) (by omega) ?_
   refine G.buildU 81 1 24 (.slice none 0 0) [.slice a4 A[k].length c4] (by kernel_rfl) (slice_ok _ _ _) rfl (by omega) (by simp) (by simp) ?_
   intro g6 u6 l6 e6
   refine G.append 81 1 24 (.slice none 0 0) PH.mt vals [.slice a4 A[k].length c4] (.slice a2 n2 c2) g6 0 1 1 (by kernel_rfl) rfl rfl (by omega) hA e6 (slice_ok _ _ _) rfl (by omega) (by omega) (by omega) ?_
   intro v7 m7 hA7
   obtain ⟨a7, c7, rfl⟩ := hA7.shape
   refine G.add (k : Int) 1 ((k + 1 : Nat) : Int) (by kernel_rfl) (by omega) (by omega) (by omega) ?_
   refine G.back (by kernel_rfl) (hJ (k + 1, vals ++ [Value.slice a4 A[k].length c4], (a7, (vals ++ [Value.slice a4 A[k].length c4]).length, c7), ⟨eb, ea, en, ec, E⟩) _ _ _ ⟨by kernel_rfl, by kernel_rfl, by kernel_rfl⟩ (((l2.trans l4).trans l5).trans l6) ⟨by dsimp only; omega, ?_, hA7, hE.mono l6, ?_⟩ (by dsimp only; omega))
   ·dsimp only
    rw [List.take_add_one, htk]
    exact (hF.mono (fun _ _ h => h.mono ((l4.trans l5).trans l6))).snoc (k4.mono (l5.trans l6))
   ·intro r hr
    dsimp only at hr ⊢
    rw [List.take_add_one, htk] at hr
    rcases List.mem_append.1 hr with hr | hr
    ·exact hev r hr
    ·simp at hr; subst hr; exact hrv
 ·have : k = A.length := by omega
  subst this
  rw [List.take_length] at hF hdv
  refine G.lssF (A.length : Int) (A.length : Int) (by kernel_rfl) (by omega) ?_
  refine G.give PH.mt vals _ (by kernel_rfl) hA (fun _ => .inl rfl) ?_
  intro u3 l3 hL3
  have hlv : vals.length = A.length := by rw [hF.1]
  obtain ⟨_, _, e0⟩ := hL3.opn
  simp only [Value.slice.injEq] at e0
  obtain ⟨rfl, rfl, rfl⟩ := e0
  rw [hlv] at hL3 ⊢
  have hFM : FMatP u3 (.slice a2 A.length c2) A := ⟨vals, hL3, hF.mono (fun _ _ h => h.mono l3)⟩
  refine G.loop (ι := Nat × List Value × (Option Addr × Nat × Nat))
   (fun i => [(2, .p 0 0), (3, .p 1002 0), (45, .v (.slice a2 A.length c2)), (46, .v (.int .i64 (A.length : Int))), (47, .v (.int .i64 (i.1 : Int)))])
   (fun i => [(0, ⟨134, [.v (.bool false), .v (.slice none 0 0), .v (.slice none 0 0)]⟩), (1002, ⟨134, [.v (.bool db), .v (.slice da dn dc), .v (.slice i.2.2.1 i.2.2.2.1 i.2.2.2.2)]⟩)])
   (fun i u' m' => i.1 ≤ A.length ∧ AtP NumsP u' i.2.1 ((A.take i.1).map (cellsOf D)) ∧ ArrAt PH.mt m' (.slice i.2.2.1 i.2.2.2.1 i.2.2.2.2) 170 1 i.2.1)
   (fun i => A.length - i.1) (0, [], (none, 0, 0)) (by kernel_rfl) (fun _ => by kernel_rfl) ⟨by kernel_rfl, by kernel_rfl, by kernel_rfl⟩
   ⟨Nat.zero_le _, AtP.nil, ArrAt.nil _ _ _⟩ ?_
  rintro J2 ⟨k, cv, ⟨a5, n5, c5⟩⟩ hJ2 u5 m5 l5 ⟨hk5, hN, hA5⟩
  simp only at hk5 hN hA5 hJ2
  have hel5 := hN.1
  rw [List.length_map, List.length_take] at hel5
  by_cases hlt : k < A.length
  ·refine G.lssT (k : Int) (A.length : Int) (by kernel_rfl) (by omega) ?_
   have htk : A[k]? = some A[k] := List.getElem?_eq_getElem hlt
   have hmem := List.getElem_mem hlt
   have hrl := hl2 _ hmem
   obtain ⟨b6, o6, e6, rfl, h6, f6⟩ := LP.at (hFM.mono l5) htk
   obtain ⟨a7, c7, rfl⟩ := f6.lp.opn
   refine G.addr b6 o6 A.length c2 k 1 (by kernel_rfl) (by omega) ?_
   refine G.loadU none b6 (o6 + k * 1) _ (by kernel_rfl) (by kernel_rfl) h6 ?_
   refine G.make 88 2 32 (.agg #[.bool false, .slice none 0 0]) A[k].length (by kernel_rfl) rfl rfl (by omega) (by omega) (by omega) ?_
   rintro v8 m8 hA8 ⟨a8, rfl⟩
   obtain ⟨g8, rfl, hg8⟩ := hA8.some'
   refine G.loop (ι := Nat × List Value)
    (fun i => [(2, .p 0 0), (3, .p 1002 0), (45, .v (.slice (some ⟨b6, o6, none⟩) A.length c2)), (46, .v (.int .i64 (A.length : Int))), (47, .v (.int .i64 (k : Int))), (12, .v (.slice (some ⟨g8, 0, none⟩) A[k].length A[k].length)), (54, .v (.slice a7 A[k].length c7)), (55, .v (.int .i64 (A[k].length : Int))), (56, .v (.int .i64 (i.1 : Int)))])
    (fun i => [(0, ⟨134, [.v (.bool false), .v (.slice none 0 0), .v (.slice none 0 0)]⟩), (1002, ⟨134, [.v (.bool db), .v (.slice da dn dc), .v (.slice a5 n5 c5)]⟩)])
    (fun i u' m' => i.1 ≤ A[k].length ∧ AtP NumP u' i.2 (cellsOf D (A[k].take i.1)) ∧ ArrAt m5 m' (.slice (some ⟨g8, 0, none⟩) A[k].length A[k].length) 88 2 (i.2 ++ List.replicate (A[k].length - i.1) (.agg #[.bool false, .slice none 0 0])))
    (fun i => A[k].length - i.1) (0, []) (by kernel_rfl) (fun _ => by kernel_rfl) ⟨by kernel_rfl, by kernel_rfl, by kernel_rfl⟩
    ⟨Nat.zero_le _, AtP.nil, by simpa using hA8⟩ ?_
   rintro J3 ⟨j, done⟩ hJ3 u9 m9 l9 ⟨hj9, hN9, hA9⟩
   simp only at hj9 hN9 hA9 hJ3
   have hel9 := hN9.1
   rw [cellsOf, List.length_map, List.length_take] at hel9
   by_cases hlt2 : j < A[k].length
   ·refine G.lssT (j : Int) (A[k].length : Int) (by kernel_rfl) (by omega) ?_
    have hqj : A[k][j]? = some A[k][j] := List.getElem?_eq_getElem hlt2
    have hqm := List.getElem_mem hlt2
    have htx := hT _ hmem _ hqm
    have hq0 := (A[k][j]).den_pos
    obtain ⟨b10, o10, e10, rfl, h10, f10⟩ := (f6.mono l9).lp.at hqj
    obtain ⟨x1, x2, x3, x4, x5, x6, x7, x8, rfl⟩ := f10.opn
    refine G.addr b10 o10 A[k].length c7 j 4 (by kernel_rfl) hlt2 ?_
    refine G.loadU (some 4) b10 (o10 + j * 4) _ (by kernel_rfl) (by kernel_rfl) h10 ?_
    refine G.call0 _ _ (by kernel_rfl) Tryz.call135 (fracDen0 f10) ?_
    intro v11 u11 l11 k11
    obtain ⟨b11, a11, n11, c11, rfl⟩ := k11.opn
    refine G.call0 _ _ (by kernel_rfl) Tryz.call136 (numDiv0 ((hD.mono (((l3.trans l5).trans l9).trans l11)).1) k11 (Nat.le_trans (hDs _ hD.2.2) (by omega)) (Nat.le_trans (nl_of_dig htx.den) (by omega)) (by omega)) ?_
    rintro v12 u12 l12 ⟨v13, v14, rfl, k13, k14⟩
    obtain ⟨b13, a13, n13, c13, rfl⟩ := k13.opn
    obtain ⟨b14, a14, n14, c14, rfl⟩ := k14.opn
    refine G.call0 _ _ (by kernel_rfl) Tryz.call137 (fracNum0 (f10.mono (l11.trans l12))) ?_
    intro v15 u15 l15 k15
    obtain ⟨b15, a15, n15, c15, rfl⟩ := k15.opn
    have hdq : ((D : Int) / (A[k][j].den : Int)) = ((D / A[k][j].den : Nat) : Int) := by push_cast; rfl
    rw [hdq] at k13
    refine G.call0 _ _ (by kernel_rfl) Tryz.call108 (numMul0 k15 (k13.mono l15) (Nat.le_trans (nl_of_dig htx.1) (by omega)) (by rw [Int.natAbs_natCast]; exact Nat.le_trans (nl_div_le _ _) (Nat.le_trans (hDs _ hD.2.2) (by omega)))) ?_
    intro v16 u16 l16 k16
    obtain ⟨b16, a16, n16, c16, rfl⟩ := k16.opn
    refine G.addr g8 0 A[k].length A[k].length j 2 (by kernel_rfl) hlt2 ?_
    refine G.storeA 2 m5 _ g8 A[k].length A[k].length j (.agg #[.bool b16, .slice a16 n16 c16]) (by kernel_rfl) hA9 (by simp; omega) rfl rfl ?_
    intro m17 hA17
    rw [set_fill (by omega) hlt2] at hA17
    refine G.add (j : Int) 1 ((j + 1 : Nat) : Int) (by kernel_rfl) (by omega) (by omega) (by omega) ?_
    refine G.back (by kernel_rfl) (hJ3 (j + 1, done ++ [.agg #[.bool b16, .slice a16 n16 c16]]) _ _ _ ⟨by kernel_rfl, by kernel_rfl, by kernel_rfl⟩ ((((l9.trans l11).trans l12).trans l15).trans l16) ⟨by dsimp only; omega, ?_, hA17⟩ (by dsimp only; omega))
    dsimp only
    rw [List.take_add_one, hqj, cellsOf, List.map_append]
    exact (hN9.mono (fun _ _ h => h.mono (((l11.trans l12).trans l15).trans l16))).snoc k16
   ·have : j = A[k].length := by omega
    subst this
    rw [List.take_length] at hN9
    rw [Nat.sub_self, List.replicate_zero, List.append_nil] at hA9
    refine G.lssF (A[k].length : Int) (A[k].length : Int) (by kernel_rfl) (by omega) ?_
    refine G.give m5 done _ (by kernel_rfl) hA9 (fun _ => .inl rfl) ?_
    intro u10 l10 hL10
    refine G.buildU 170 1 24 (.slice none 0 0) [.slice (some ⟨g8, 0, none⟩) A[k].length A[k].length] (by kernel_rfl) (slice_ok _ _ _) rfl (by omega) (by simp) (by simp) ?_
    intro g11 u11 l11 e11
    refine G.append 170 1 24 (.slice none 0 0) PH.mt cv [.slice (some ⟨g8, 0, none⟩) A[k].length A[k].length] (.slice a5 n5 c5) g11 0 1 1 (by kernel_rfl) rfl rfl (by omega) hA5 e11 (slice_ok _ _ _) rfl (by omega) (by omega) (by omega) ?_
    intro v12 m12 hA12
    obtain ⟨a12, c12, rfl⟩ := hA12.shape
    refine G.add (k : Int) 1 ((k + 1 : Nat) : Int) (by kernel_rfl) (by omega) (by omega) (by omega) ?_
    refine G.back (by kernel_rfl) (hJ2 (k + 1, cv ++ [.slice (some ⟨g8, 0, none⟩) A[k].length A[k].length], (a12, (cv ++ [Value.slice (some ⟨g8, 0, none⟩) A[k].length A[k].length]).length, c12)) _ _ _ ⟨by kernel_rfl, by kernel_rfl, by kernel_rfl⟩ (((l5.trans l9).trans l10).trans l11) ⟨by dsimp only; omega, ?_, hA12⟩ (by dsimp only; omega))
    dsimp only
    rw [List.take_add_one, htk, List.map_append]
    exact (hN.mono (fun _ _ h => h.mono ((l9.trans l10).trans l11))).snoc (x := cellsOf D A[k]) ⟨done, hL10.mono l11, hN9.mono (fun _ _ h => h.mono (l10.trans l11))⟩
  ·have : k = A.length := by omega
   subst this
   rw [List.take_length] at hN
   refine G.lssF (A.length : Int) (A.length : Int) (by kernel_rfl) (by omega) ?_
   refine G.give PH.mt cv _ (by kernel_rfl) hA5 (fun _ => .inl rfl) ?_
   intro u6 l6 hL6
   exact G.ret (.agg #[.bool db, .slice da dn dc, .slice a5 n5 c5]) (by kernel_rfl) ⟨rfl, D, hD.2.1, hD.2.2, hdv, db, da, dn, dc, a5, n5, c5, rfl, (hD.mono ((l3.trans l5).trans l6)).1, cv, hL6, hN.mono (fun _ _ h => h.mono l6)⟩
end Go.Proofs.YtldokelpolbnnaaGreatDoor
end
section
set_option linter.unusedSectionVars false
set_option linter.unusedVariables false
namespace Go.Proofs.YtldokelpolbnnaaGreatDoor
open Go.RowKit
theorem NMatP.opn {u : PH} {v : Value} {cs : List (List Int)} (h : NMatP u v cs) : ∃ a c, v = .slice a cs.length c := LP.opn h
theorem NumsP.opn {u : PH} {v : Value} {cs : List Int} (h : NumsP u v cs) : ∃ a c, v = .slice a cs.length c := LP.opn h
set_option maxHeartbeats 1000000 in
theorem digits0 {u : PH} {v : Value} {D K : Nat} {cs : List (List Int)} (ht : TabU u) (h : TabP u v D cs) (hK : K ≤ 400) (hD : Lib.nDigits D ≤ K) (hc : ∀ r ∈ cs, ∀ z ∈ r, Lib.nDigits z.natAbs ≤ K) (hl : cs.length ≤ 1000000) (hl2 : ∀ r ∈ cs, r.length ≤ 1000000) :
  Fn0 Tryz.prog 89 [v] u fun v' _ => ∃ n : Nat, v' = .int .i64 (n : Int) ∧ n ≤ K := by
 obtain ⟨b, a, n, c, a', n', c', rfl, h1, h2⟩ := h
 obtain ⟨a'', c'', e⟩ := h2.opn
 simp only [Value.slice.injEq] at e
 obtain ⟨rfl, rfl, rfl⟩ := e
 refine Fn0.of Tryz.func89 (by kernel_rfl) (by kernel_rfl) ?_
 refine G.call0 _ _ (by kernel_rfl) Tryz.call121 (numDigits0 ht h1 (by rw [Int.natAbs_natCast]; exact Nat.le_trans (nl_of_dig (by omega)) (by omega))) ?_
 rintro v1 u1 l1 rfl
 rw [Int.natAbs_natCast]
 refine G.loop (ι := Nat × Nat) (fun i => [(1, .p 0 0), (3, .v (.int .i64 (i.2 : Int))), (12, .v (.slice a' cs.length c')), (13, .v (.int .i64 (cs.length : Int))), (14, .v (.int .i64 (i.1 : Int)))])
  (fun i => [(0, ⟨134, [.v (.bool b), .v (.slice a n c), .v (.slice a' cs.length c')]⟩)])
  (fun i u' m' => i.1 ≤ cs.length ∧ i.2 ≤ K ∧ m' = PH.mt) (fun i => cs.length - i.1) (0, Lib.nDigits D) (by kernel_rfl) (fun _ => by kernel_rfl) ⟨by kernel_rfl, by kernel_rfl, by kernel_rfl⟩ ⟨Nat.zero_le _, hD, rfl⟩ ?_
 rintro J ⟨i, k⟩ hJ u2 m2 l2 ⟨hi, hk, rfl⟩
 simp only at hi hk hJ
 by_cases hlt : i < cs.length
 ·refine G.lssT (i : Int) (cs.length : Int) (by kernel_rfl) (by omega) ?_
  have hti : cs[i]? = some cs[i] := List.getElem?_eq_getElem hlt
  have hmem := List.getElem_mem hlt
  obtain ⟨b3, o3, e3, rfl, h3, f3⟩ := LP.at (h2.mono (l1.trans l2)) hti
  obtain ⟨a4, c4, rfl⟩ := f3.opn
  refine G.addr b3 o3 cs.length c' i 1 (by kernel_rfl) hlt ?_
  refine G.loadU none b3 (o3 + i * 1) _ (by kernel_rfl) (by kernel_rfl) h3 ?_
  refine G.loop (ι := Nat × Nat) (fun j => [(1, .p 0 0), (3, .v (.int .i64 (j.2 : Int))), (12, .v (.slice (some ⟨b3, o3, none⟩) cs.length c')), (13, .v (.int .i64 (cs.length : Int))), (14, .v (.int .i64 (i : Int))), (18, .v (.slice a4 cs[i].length c4)), (19, .v (.int .i64 (cs[i].length : Int))), (20, .v (.int .i64 (j.1 : Int)))])
   (fun j => [(0, ⟨134, [.v (.bool b), .v (.slice a n c), .v (.slice (some ⟨b3, o3, none⟩) cs.length c')]⟩)])
   (fun j u' m' => j.1 ≤ cs[i].length ∧ j.2 ≤ K ∧ m' = PH.mt) (fun j => cs[i].length - j.1) (0, k) (by kernel_rfl) (fun _ => by kernel_rfl) ⟨by kernel_rfl, by kernel_rfl, by kernel_rfl⟩ ⟨Nat.zero_le _, hk, rfl⟩ ?_
  rintro J2 ⟨j, k2⟩ hJ2 u5 m5 l5 ⟨hj, hk2, rfl⟩
  simp only at hj hk2 hJ2
  have hrl := hl2 _ hmem
  by_cases hlt2 : j < cs[i].length
  ·refine G.lssT (j : Int) (cs[i].length : Int) (by kernel_rfl) (by omega) ?_
   have htj : cs[i][j]? = some cs[i][j] := List.getElem?_eq_getElem hlt2
   have hzm := hc _ hmem _ (List.getElem_mem hlt2)
   obtain ⟨b6, o6, e6, rfl, h6, f6⟩ := LP.at (f3.mono l5) htj
   obtain ⟨b7, a7, n7, c7, rfl⟩ := f6.opn
   refine G.addr b6 o6 cs[i].length c4 j 2 (by kernel_rfl) hlt2 ?_
   refine G.loadU (some 2) b6 (o6 + j * 2) _ (by kernel_rfl) (by kernel_rfl) h6 ?_
   refine G.call0 _ _ (by kernel_rfl) Tryz.call121 (numDigits0 (ht.mono ((l1.trans l2).trans l5)) f6 (Nat.le_trans (nl_of_dig (by omega)) (by omega))) ?_
   rintro v8 u8 l8 rfl
   generalize Lib.nDigits (cs[i][j]).natAbs = d at *
   refine G.maxI [3, 3] (k2 : Int) (d : Int) ((max k2 d : Nat) : Int) (by kernel_rfl) (by omega) ?_
   refine G.add (j : Int) 1 ((j + 1 : Nat) : Int) (by kernel_rfl) (by omega) (by omega) (by omega) ?_
   exact G.back (by kernel_rfl) (hJ2 (j + 1, max k2 d) _ _ _ ⟨by kernel_rfl, by kernel_rfl, by kernel_rfl⟩ (l5.trans l8) ⟨by dsimp only; omega, by dsimp only; omega, rfl⟩ (by dsimp only; omega))
  ·refine G.lssF (j : Int) (cs[i].length : Int) (by kernel_rfl) (by omega) ?_
   refine G.add (i : Int) 1 ((i + 1 : Nat) : Int) (by kernel_rfl) (by omega) (by omega) (by omega) ?_
   exact G.back (by kernel_rfl) (hJ (i + 1, k2) _ _ _ ⟨by kernel_rfl, by kernel_rfl, by kernel_rfl⟩ (l2.trans l5) ⟨by dsimp only; omega, hk2, rfl⟩ (by dsimp only; omega))
 ·refine G.lssF (i : Int) (cs.length : Int) (by kernel_rfl) (by omega) ?_
  exact G.ret (.int .i64 (k : Int)) (by kernel_rfl) ⟨rfl, k, rfl, hk⟩
set_option maxHeartbeats 1000000 in
theorem heavy0 {u : PH} {v : Value} {A : List (List Rat)} {L K N : Nat} (ht : TabU u) (h : MatP u v (matT A)) (hT : ∀ r ∈ A, ∀ q ∈ r, Tx q) (hl : A.length ≤ N) (hl2 : ∀ r ∈ A, r.length ≤ N) (hN : N ≤ 12) (hNK : N * K ≤ 600) (hK : K ≤ 400)
  (hL : ∀ r ∈ A, ∀ q ∈ r, q.den ∣ L) (hL0 : 0 < L) (hLs : nl L ≤ 1000000000) (hD : ∀ D : Nat, D ∣ L → 0 < D → Lib.nDigits D ≤ K ∧ ∀ r ∈ A, ∀ q ∈ r, q.den ∣ D → Lib.nDigits (q.num * ((D / q.den : Nat) : Int)).natAbs ≤ K) :
  Fn0 Tryz.prog 45 [v] u fun v' _ => v' = .bool false := by
 have hof := fun (v : Value) (u' : PH) (hv : MatP u' v (matT A)) => elimOf0 hv hT (by omega) (fun r hr => by have := hl2 r hr; omega) hL hL0 hLs
 obtain ⟨a, c, rfl⟩ := h.opn
 rw [matT_length] at h ⊢
 have hdig := fun (u' : PH) (x : Value) (D : Nat) (ht' : TabU u') (hx : TabP u' x D (A.map (cellsOf D))) (h1 : D ∣ L) (h0 : 0 < D) (h2 : ∀ r ∈ A, ∀ q ∈ r, q.den ∣ D) =>
  digits0 (K := K) ht' hx hK (hD D h1 h0).1 (fun r hr z hz => by
   obtain ⟨r0, hr0, rfl⟩ := List.mem_map.1 hr
   obtain ⟨q, hq, rfl⟩ := List.mem_map.1 hz
   exact (hD D h1 h0).2 r0 hr0 q hq (h2 r0 hr0 q hq)) (by rw [List.length_map]; omega) (fun r hr => by
   obtain ⟨r0, hr0, rfl⟩ := List.mem_map.1 hr
   rw [cellsOf, List.length_map]; have := hl2 r0 hr0; omega)
 refine Fn0.of Tryz.func45 (by kernel_rfl) (by kernel_rfl) ?_
 by_cases hpos : 0 < A.length
 ·refine G.gtrT (A.length : Int) 0 (by kernel_rfl) (by omega) ?_
  have htk : A[0]? = some A[0] := List.getElem?_eq_getElem hpos
  have hrl := hl2 _ (List.getElem_mem hpos)
  obtain ⟨ba, oa, a', c', rfl, ea, es⟩ := h.row (matT_at htk)
  rw [List.length_map] at ea
  generalize A[0].length = r0 at *
  refine G.addr ba oa A.length c 0 1 (by kernel_rfl) (by omega) ?_
  refine G.loadU none ba (oa + 0 * 1) (.slice a' r0 c') (by kernel_rfl) (by kernel_rfl) ea ?_
  refine G.maxI [3, 3] (A.length : Int) (r0 : Int) ((max A.length r0 : Nat) : Int) (by kernel_rfl) (by omega) ?_
  refine G.call0 _ _ (by kernel_rfl) Tryz.call88 (hof _ _ h) ?_
  rintro v1 u1 l1 ⟨D, hD0, hDL, hdv, hTab⟩
  have hTab' := hTab
  obtain ⟨x1, x2, x3, x4, x5, x6, x7, rfl, _, _⟩ := hTab
  refine G.call0 _ _ (by kernel_rfl) Tryz.call89 (hdig _ _ D (ht.mono l1) hTab' hDL hD0 hdv) ?_
  rintro v2 u2 l2 ⟨n, rfl, hn⟩
  have hm : max A.length r0 * n ≤ 600 := Nat.le_trans (Nat.mul_le_mul (by omega : max A.length r0 ≤ N) hn) hNK
  refine G.mul ((max A.length r0 : Nat) : Int) (n : Int) ((max A.length r0 * n : Nat) : Int) (by kernel_rfl) (by push_cast; rfl) (by omega) (by omega) ?_
  refine G.gtrF ((max A.length r0 * n : Nat) : Int) 600 (by kernel_rfl) (by omega) ?_
  exact G.ret (.bool false) (by kernel_rfl) ⟨rfl, rfl⟩
 ·refine G.gtrF (A.length : Int) 0 (by kernel_rfl) (by omega) ?_
  refine G.call0 _ _ (by kernel_rfl) Tryz.call88 (hof _ _ h) ?_
  rintro v1 u1 l1 ⟨D, hD0, hDL, hdv, hTab⟩
  have hTab' := hTab
  obtain ⟨x1, x2, x3, x4, x5, x6, x7, rfl, _, _⟩ := hTab
  refine G.call0 _ _ (by kernel_rfl) Tryz.call89 (hdig _ _ D (ht.mono l1) hTab' hDL hD0 hdv) ?_
  rintro v2 u2 l2 ⟨n, rfl, hn⟩
  have h0 : A.length = 0 := by omega
  refine G.mul (A.length : Int) (n : Int) 0 (by kernel_rfl) (by rw [h0]; simp) (by omega) (by omega) ?_
  refine G.gtrF 0 600 (by kernel_rfl) (by omega) ?_
  exact G.ret (.bool false) (by kernel_rfl) ⟨rfl, rfl⟩
structure Light (A : List (List Rat)) (L K : Nat) : Prop where
 den : ∀ r ∈ A, ∀ q ∈ r, q.den ∣ L
 pos : 0 < L
 nl : nl L ≤ 1000000000
 dig : ∀ D : Nat, D ∣ L → 0 < D → Lib.nDigits D ≤ K ∧ ∀ r ∈ A, ∀ q ∈ r, q.den ∣ D → Lib.nDigits (q.num * ((D / q.den : Nat) : Int)).natAbs ≤ K
theorem large0 {u : PH} {v : Value} {A : List (List Rat)} {L K : Nat} (ht : TabU u) (h : MatP u v (matT A)) (hT : ∀ r ∈ A, ∀ q ∈ r, Tx q) (hl : A.length ≤ 6) (hl2 : ∀ r ∈ A, r.length ≤ 6) (hK : 6 * K ≤ 600) (hL : Light A L K) :
  Fn0 Tryz.prog 44 [v] u fun v' _ => v' = .bool false := by
 have hh := fun (v : Value) (hv : MatP u v (matT A)) => heavy0 (N := 6) ht hv hT hl hl2 (by omega) hK (by omega) hL.den hL.pos hL.nl hL.dig
 obtain ⟨a, c, rfl⟩ := h.opn
 rw [matT_length] at h ⊢
 refine Fn0.of Tryz.func44 (by kernel_rfl) (by kernel_rfl) ?_
 refine G.gtrF (A.length : Int) 6 (by kernel_rfl) (by omega) ?_
 refine G.call0 _ _ (by kernel_rfl) Tryz.call45 (hh _ h) ?_
 rintro v1 u1 l1 rfl
 exact G.ret (.bool false) (by kernel_rfl) ⟨rfl, rfl⟩
end Go.Proofs.YtldokelpolbnnaaGreatDoor
end
section
set_option linter.unusedSectionVars false
set_option linter.unusedVariables false
namespace Go.Proofs.YtldokelpolbnnaaGreatDoor
open Go.RowKit
structure Arr where
 v : Value
 t : TypeId
 sz : Nat
 es : List Value
def Arr.At (a : Arr) (m0 m : PH) : Prop := ArrAt m0 m a.v a.t a.sz a.es
def Bag : PH → List Arr → Prop
 | _, [] => True
 | m, a :: l => ∃ m0, a.At m0 m ∧ Bag m0 l
theorem upd_comm (m : PH) {g h : Nat} (o p : Obj) (hn : g ≠ h) : (m.upd g o).upd h p = (m.upd h p).upd g o := by
 funext k
 unfold PH.upd
 by_cases h1 : k = g
 ·subst h1; simp [hn]
 ·by_cases h2 : k = h
  ·subst h2; simp [h1]
  ·simp [h1, h2]
theorem At.swap {x y : Arr} {m0 m1 m : PH} (hy : y.At m1 m) (hx : x.At m0 m1) : ∃ m2, y.At m0 m2 ∧ x.At m2 m ∧ ∀ (x' : Arr) m', x'.At m2 m' → ∃ m1', y.At m1' m' ∧ x'.At m0 m1' := by
 obtain ⟨oy, hy⟩ := hy
 rcases hy with ⟨y1, y2, rfl⟩ | ⟨h, cap, rest, y1, rfl, y2, y3, y4, y5⟩
 ·exact ⟨m0, ⟨oy, .inl ⟨y1, y2, rfl⟩⟩, hx, fun x' m' hx' => ⟨m', ⟨oy, .inl ⟨y1, y2, rfl⟩⟩, hx'⟩⟩
 ·obtain ⟨ox, hx⟩ := hx
  rcases hx with ⟨x1, x2, rfl⟩ | ⟨g, cap', rest', x1, rfl, x2, x3, x4, x5⟩
  ·refine ⟨_, ⟨oy, .inr ⟨h, cap, rest, y1, rfl, y2, y3, y4, y5⟩⟩, ⟨ox, .inl ⟨x1, x2, rfl⟩⟩, fun x' m' hx' => ?_⟩
   obtain ⟨ox', hx'⟩ := hx'
   rcases hx' with ⟨z1, z2, rfl⟩ | ⟨g', cap'', rest'', z1, rfl, z2, z3, z4, z5⟩
   ·exact ⟨_, ⟨oy, .inr ⟨h, cap, rest, y1, rfl, y2, y3, y4, y5⟩⟩, ⟨ox', .inl ⟨z1, z2, rfl⟩⟩⟩
   ·have hne : g' ≠ h := fun e => by subst e; rw [upd_same] at z1; cases z1
    rw [upd_ne _ _ hne] at z1
    refine ⟨_, ⟨oy, .inr ⟨h, cap, rest, ?_, upd_comm _ _ _ hne.symm, y2, y3, y4, y5⟩⟩, ⟨ox', .inr ⟨g', cap'', rest'', z1, rfl, z2, z3, z4, z5⟩⟩⟩
    rw [upd_ne _ _ hne.symm]; exact y1
  ·have hne : h ≠ g := fun e => by subst e; rw [upd_same] at y1; cases y1
   rw [upd_ne _ _ hne] at y1
   refine ⟨_, ⟨oy, .inr ⟨h, cap, rest, y1, rfl, y2, y3, y4, y5⟩⟩, ⟨ox, .inr ⟨g, cap', rest', ?_, upd_comm _ _ _ hne.symm, x2, x3, x4, x5⟩⟩, fun x' m' hx' => ?_⟩
   ·rw [upd_ne _ _ hne.symm]; exact x1
   ·obtain ⟨ox', hx'⟩ := hx'
    rcases hx' with ⟨z1, z2, rfl⟩ | ⟨g', cap'', rest'', z1, rfl, z2, z3, z4, z5⟩
    ·exact ⟨_, ⟨oy, .inr ⟨h, cap, rest, y1, rfl, y2, y3, y4, y5⟩⟩, ⟨ox', .inl ⟨z1, z2, rfl⟩⟩⟩
    ·have hne' : g' ≠ h := fun e => by subst e; rw [upd_same] at z1; cases z1
     rw [upd_ne _ _ hne'] at z1
     refine ⟨_, ⟨oy, .inr ⟨h, cap, rest, ?_, upd_comm _ _ _ hne'.symm, y2, y3, y4, y5⟩⟩, ⟨ox', .inr ⟨g', cap'', rest'', z1, rfl, z2, z3, z4, z5⟩⟩⟩
     rw [upd_ne _ _ hne'.symm]; exact y1
theorem Bag.focus : ∀ {l : List Arr} {m : PH} (_ : Bag m l) (i : Nat) {x : Arr}, l[i]? = some x → ∃ m0, x.At m0 m ∧ ∀ (x' : Arr) m', x'.At m0 m' → Bag m' (l.set i x')
 | [], m, _, i, x, hi => by simp at hi
 | y :: l, m, ⟨m1, hy, hl⟩, 0, x, hi => by
  simp at hi; subst hi
  exact ⟨m1, hy, fun x' m' hx' => ⟨m1, hx', hl⟩⟩
 | y :: l, m, ⟨m1, hy, hl⟩, i + 1, x, hi => by
  simp at hi
  obtain ⟨m0, hx, hput⟩ := Bag.focus hl i hi
  obtain ⟨m2, hy2, hx2, hk⟩ := At.swap hy hx
  refine ⟨m2, hx2, fun x' m' hx' => ?_⟩
  obtain ⟨m1', k1, k2⟩ := hk x' m' hx'
  exact ⟨m1', k1, hput x' m1' k2⟩
theorem Bag.take : ∀ {l : List Arr} {m : PH} (_ : Bag m l) (i : Nat) {x : Arr}, l[i]? = some x → ∃ m0, x.At m0 m ∧ Bag m0 (l.eraseIdx i)
 | [], m, _, i, x, hi => by simp at hi
 | y :: l, m, ⟨m1, hy, hl⟩, 0, x, hi => by
  simp at hi; subst hi
  exact ⟨m1, hy, hl⟩
 | y :: l, m, ⟨m1, hy, hl⟩, i + 1, x, hi => by
  simp at hi
  obtain ⟨m0, hx, hput⟩ := Bag.take hl i hi
  obtain ⟨m2, hy2, hx2, hk⟩ := At.swap hy hx
  exact ⟨m2, hx2, m0, hy2, hput⟩
theorem Bag.add {l : List Arr} {m m' : PH} (h : Bag m l) {x : Arr} (hx : x.At m m') : Bag m' (x :: l) := ⟨m, hx, h⟩
theorem Bag.el {l : List Arr} {m : PH} (h : Bag m l) (i : Nat) {x : Arr} (hi : l[i]? = some x) {b n c j : Nat} {e : Value} (hv : x.v = .slice (some ⟨b, 0, none⟩) n c) (hj : x.es[j]? = some e) : ElP m b (0 + j * x.sz) e := by
 obtain ⟨m0, hx, _⟩ := h.focus i hi
 unfold Arr.At at hx
 rw [hv] at hx
 exact hx.el hj
theorem Bag.shape {l : List Arr} {m : PH} (h : Bag m l) (i : Nat) {x : Arr} (hi : l[i]? = some x) : ∃ a c, x.v = .slice a x.es.length c := by
 obtain ⟨m0, hx, _⟩ := h.focus i hi
 exact hx.shape
theorem Bag.ptr {l : List Arr} {m : PH} (h : Bag m l) (i : Nat) {x : Arr} (hi : l[i]? = some x) (hn : x.es ≠ []) : ∃ b c, x.v = .slice (some ⟨b, 0, none⟩) x.es.length c := by
 obtain ⟨m0, hx, _⟩ := h.focus i hi
 exact hx.ptr hn
theorem ArrAt.join {m mc : PH} {v : Value} {t : TypeId} {sz : Nat} {es : List Value} (h : ArrAt PH.mt mc v t sz es) (hf : ∀ g, mc g ≠ none → m g = none) : ArrAt m (m.or mc) v t sz es := by
 obtain ⟨ho, h⟩ := h
 rcases h with ⟨h1, h2, rfl⟩ | ⟨g, cap, rest, h1, rfl, h2, h3, h4, h5⟩
 ·refine ⟨ho, .inl ⟨h1, h2, ?_⟩⟩
  funext k; unfold PH.or; split
  ·rename_i o e; rw [e]
  ·rename_i e; rw [e]; rfl
 ·have hg : m g = none := hf g (by rw [upd_same]; simp)
  refine ⟨ho, .inr ⟨g, cap, rest, hg, ?_, h2, h3, h4, h5⟩⟩
  funext k
  by_cases hk : k = g
  ·subst hk; rw [upd_same, PH.or_r hg, upd_same]
  ·rw [upd_ne _ _ hk]
   unfold PH.or; split
   ·rename_i o e; rw [e]
   ·rename_i e; rw [e, upd_ne _ _ hk]; rfl
section rules
variable {P : Program} [Mixed P] {fn : Func} {Post : Spec} {st : List KI × S} {u m : PH}
theorem G.callO (f : Nat) (args : List Value) {R : Value → PH → PH → Prop} (h : stopV P (adv P st) = .call f args) (hc : ∀ args w, (callFunc f args).run P w = .ok (.enter f args) w) (c : Contract P f args u PH.mt R)
  (k : ∀ v u' mc, PH.le u u' → R v u' mc → (∀ g, mc g ≠ none → m g = none) → G P fn Post (nx (adv P st) v) u' (m.or mc)) : G P fn Post st u m := by
 refine G.big (K := fun v u' m' => ∃ mc, m' = m.or mc ∧ R v u' mc ∧ ∀ g, mc g ≠ none → m g = none) h (by simp) view_call_free (.inl fun v u' m' hK => ?_) (fun env o hview w hgd => ?_) (fun v u' m' h1 h2 => ?_)
 ·obtain ⟨mc, rfl, _⟩ := hK
  exact fun g o hg => PH.or_l hg
 ·refine does_call hview hc w _ (Calls.mono (c w hgd.noM) fun e w' he => ?_)
  obtain ⟨v, u', mc, e1, e2, e3, e4⟩ := he
  have hor : m.or PH.mt = m := by
   funext g; unfold PH.or; split
   ·rename_i o e; rw [e]
   ·rename_i e; rw [e]; rfl
  have hfr : ∀ g, mc g ≠ none → m g = none := fun g hg => by
   rcases Nat.lt_or_ge g w.heap.size with hlt | hge
   ·exact absurd (e3.ms g hlt rfl) hg
   ·exact hgd.pm.none hge
  obtain ⟨g1, g2⟩ := Good.frameM (mf := m) (mc := PH.mt) (by rw [hor]; exact hgd) (fun _ => .inr rfl) e2 e3
  rw [hor] at g2
  exact ⟨v, e1, u', m.or mc, g1, g2, mc, rfl, e4, hfr⟩
 ·obtain ⟨mc, rfl, hR, hf⟩ := h2
  exact k v u' mc h1 hR hf
theorem view_copy {env : Operand → Value} {o : Op} {ts : List TypeId} {xs : List Value} (h : viewOp P env o = .blt .copy ts xs) : mutOp o = true ∧ freeOp o = false := by
 obtain ⟨c, rfl, h2, _⟩ := view_blt h
 obtain ⟨cal, a, t⟩ := c
 simp only at h2; subst h2
 exact ⟨rfl, rfl⟩
theorem G.copyM (dT sT e : TypeId) (sz g o n c : Nat) (a : Addr) (sn sc : Nat) (t : TypeId) (cur cs : List Value) (h : stopV P (adv P st) = .blt .copy [dT, sT] [.slice (some ⟨g, o, none⟩) n c, .slice (some a) sn sc])
  (hu : P.underlying dT = some (.slice e)) (hsz : szB P e = some sz) (hb : m g = some (.cells cur.toArray t (0, 0))) (hk : cs.length = Nat.min sn n * sz)
  (hsrc : ∀ w, Part u w → Part m w → ∀ (j : Nat) (v : Value), cs[j]? = some v → w.cell? (a.add j) = some v) (hfit : o + cs.length ≤ cur.length) (h1 : ∀ x ∈ cs, cellOK x = true) (h2 : ∀ x ∈ cur, cellOK x = true)
  (k : G P fn Post (nx (adv P st) (.int .i64 ((Nat.min sn n : Nat) : Int))) u (m.upd g (.cells (cur.take o ++ cs ++ cur.drop (o + cs.length)).toArray t (0, 0)))) : G P fn Post st u m := by
 refine G.big (K := fun v' u' m' => u' = u ∧ v' = .int .i64 ((Nat.min sn n : Nat) : Int) ∧ m' = m.upd g (.cells (cur.take o ++ cs ++ cur.drop (o + cs.length)).toArray t (0, 0))) h (by simp) (fun env op hv => (view_copy hv).2) (.inr fun env op hv => (view_copy hv).1) (fun env op hview w hgd => ?_) (fun v' u' m' _ hk => ?_)
 ·obtain ⟨cc, e1, e2, e3, e4⟩ := view_blt hview
  obtain ⟨dst, opp, type, pos, after, guard⟩ := op
  obtain ⟨cal, ar, ty⟩ := cc
  simp only at e1 e2 e3 e4; subst e1 e2 e3
  have hgw := hgd.pm g _ hb
  have hl := run_loadCells_list (P := P) w a cs (hsrc w hgd.pu hgd.pm)
  have hst := run_storeCells_at P g o t cs 0 cur.toArray w hgw (by simpa using hfit) (fun x hx => cellOK_one (h1 x hx))
  have hrun : (Builtin.copy_ #[dT, sT] type #[.slice (some ⟨g, o, none⟩) n c, .slice (some a) sn sc]).run P w = .ok (.int .i64 ((Nat.min sn n : Nat) : Int)) (w.setRow g (cur.take o ++ cs ++ cur.drop (o + cs.length)).toArray) := by
   simp only [Nat.add_zero, List.toList_toArray] at hst
   simp [Builtin.copy_, run_underlying hu, Builtin.lenOf, Builtin.firstCells, run_sizeOf' hsz, ← hk, hl]
   rw [hst]
   simp [goInt]
  have hcell : ∀ x ∈ (cur.take o ++ cs ++ cur.drop (o + cs.length)).toArray.toList, cellOK x = true := by
   intro x hx
   simp only [List.toList_toArray, List.mem_append] at hx
   rcases hx with (hx | hx) | hx
   ·exact h2 x (List.mem_of_mem_take hx)
   ·exact h1 x hx
   ·exact h2 x (List.mem_of_mem_drop hx)
  obtain ⟨g1, g2⟩ := hgd.setM hb hcell
  unfold OpDoes
  have hex : (execOp env ⟨dst, .call ⟨.builtin .copy, ar, #[dT, sT]⟩, type, pos, after, guard⟩).run P w = .ok (.value (.int .i64 ((Nat.min sn n : Nat) : Int))) (w.setRow g (cur.take o ++ cs ++ cur.drop (o + cs.length)).toArray) := by
   simp [execOp, resolve, invoke, builtin, e4, hrun]
  rw [hex]
  exact ⟨u, _, g1, g2, rfl, rfl, rfl⟩
 ·obtain ⟨rfl, rfl, rfl⟩ := hk
  exact k
end rules
end Go.Proofs.YtldokelpolbnnaaGreatDoor
end
section
set_option linter.unusedSectionVars false
set_option linter.unusedVariables false
namespace Go.Proofs.YtldokelpolbnnaaGreatDoor
open Go.RowKit
theorem flat_take {sz : Nat} {es : List Value} (h : ElsOK sz es) (k : Nat) : (flat es).take (k * sz) = flat (es.take k) := by
 by_cases hk : k ≤ es.length
 ·have e : flat es = flat (es.take k) ++ flat (es.drop k) := by rw [← flat_append, List.take_append_drop]
  have hl : (flat (es.take k)).length = k * sz := by rw [flat_length (sz := sz) (fun x hx => h x (List.mem_of_mem_take hx)), List.length_take]; congr 1; omega
  rw [e, List.take_append_of_le_length (by omega), ← hl, List.take_length]
 ·rw [List.take_of_length_le (by rw [flat_length h]; exact Nat.mul_le_mul_right _ (by omega)), List.take_of_length_le (by omega)]
theorem flat_drop {sz : Nat} {es : List Value} (h : ElsOK sz es) (k : Nat) : (flat es).drop (k * sz) = flat (es.drop k) := by
 by_cases hk : k ≤ es.length
 ·have e : flat es = flat (es.take k) ++ flat (es.drop k) := by rw [← flat_append, List.take_append_drop]
  have hl : (flat (es.take k)).length = k * sz := by rw [flat_length (sz := sz) (fun x hx => h x (List.mem_of_mem_take hx)), List.length_take]; congr 1; omega
  rw [e, ← hl, List.drop_left]
 ·rw [List.drop_of_length_le (by rw [flat_length h]; exact Nat.mul_le_mul_right _ (by omega)), List.drop_of_length_le (by omega)]; rfl
theorem ElsOK.replicate {sz : Nat} {e : Value} (h : ElsOK sz [e]) (n : Nat) : ElsOK sz (List.replicate n e) := fun x hx => h x (by rw [List.eq_of_mem_replicate hx]; simp)
section rules
variable {P : Program} [Mixed P] {fn : Func} {Post : Spec} {st : List KI × S} {u m : PH}
theorem G.copyA (dT sT e : TypeId) (sz g n k : Nat) (a : Addr) (sn sc c : Nat) (t : TypeId) (m0 : PH) (es xs : List Value) (h : stopV P (adv P st) = .blt .copy [dT, sT] [.slice (some ⟨g, 0 + k * sz, none⟩) (n - k) c, .slice (some a) sn sc])
  (hu : P.underlying dT = some (.slice e)) (hsz : szB P e = some sz) (ha : ArrAt m0 m (.slice (some ⟨g, 0, none⟩) n n) t sz es) (ho : ElsOK sz xs) (hk : xs.length = Nat.min sn (n - k)) (hkn : k ≤ n)
  (hsrc : ∀ w, Part u w → Part m w → ∀ (j : Nat) (v : Value), (flat xs)[j]? = some v → w.cell? (a.add j) = some v)
  (kk : ∀ m', ArrAt m0 m' (.slice (some ⟨g, 0, none⟩) n n) t sz (es.take k ++ xs ++ es.drop (k + xs.length)) → G P fn Post (nx (adv P st) (.int .i64 ((Nat.min sn (n - k) : Nat) : Int))) u m') : G P fn Post st u m := by
 have hlen := ha.len
 obtain ⟨hoe, h'⟩ := ha
 rcases h' with ⟨h1, _, _⟩ | ⟨g', cap, rest, h1, rfl, h2, h3, h4, h5⟩
 ·simp at h1
 simp only [Value.slice.injEq, Option.some.injEq, Addr.mk.injEq, and_true] at h2
 obtain ⟨rfl, h2, rfl⟩ := h2
 have hr : rest = [] := by
  rw [List.length_append, flat_length hoe, ← h2] at h4
  exact List.eq_nil_of_length_eq_zero (by omega)
 subst hr
 simp only [List.append_nil] at h4 ⊢
 have hmin : Nat.min sn (n - k) ≤ n - k := Nat.min_le_right _ _
 have hfl : (flat xs).length = Nat.min sn (n - k) * sz := by rw [flat_length ho, hk]
 refine G.copyM dT sT e sz g (0 + k * sz) (n - k) c a sn sc t (flat es) (flat xs) h hu hsz (upd_same _ _ _) hfl (by simpa using hsrc) (by rw [hfl, flat_length hoe, ← h2, Nat.zero_add, ← Nat.add_mul]; exact Nat.mul_le_mul_right _ (by omega)) (flat_ok ho) (flat_ok hoe) ?_
 rw [upd_upd]
 refine kk _ ⟨?_, .inr ⟨g, n, [], h1, ?_, ?_, ?_, ?_, by simp⟩⟩
 ·exact ((ElsOK.append (fun x hx => hoe x (List.mem_of_mem_take hx)) ho).append (fun x hx => hoe x (List.mem_of_mem_drop hx)))
 ·congr 3
  rw [Nat.zero_add, flat_take hoe, hfl, ← Nat.add_mul, flat_drop hoe, ← flat_append, ← flat_append, List.append_nil, hk]
 ·congr 1
  simp only [List.length_append, List.length_take, List.length_drop, hk]
  omega
 ·simp only [List.length_append, List.length_take, List.length_drop, hk]
  omega
 ·rw [List.append_nil, flat_length (sz := sz)]
  ·congr 1
   simp only [List.length_append, List.length_take, List.length_drop, hk]
   omega
  ·exact ((ElsOK.append (fun x hx => hoe x (List.mem_of_mem_take hx)) ho).append (fun x hx => hoe x (List.mem_of_mem_drop hx)))
end rules
theorem bitsMul1 {u : PH} {n : Nat} (hn : n ≤ 1000000) : Fn0 Tryz.prog 90 [.int .u64 1, .int .u64 (n : Int)] u fun v _ => v = .tuple #[.int .u64 0, .int .u64 (n : Int)] := by
 refine Fn0.ofW (fun v _ => v = .tuple #[.int .u64 0, .int .u64 (n : Int)]) (fun w _ => (Tryz.bits_Mul 1 n (by omega) (by omega) w).mono fun _ _ ⟨e, h⟩ => ⟨_, e, ?_, by rw [h]; exact Ext.refl _⟩) (fun _ _ _ h _ _ _ => h)
 rw [Nat.one_mul, Nat.div_eq_of_lt (by omega), Nat.mod_eq_of_lt (by omega)]; rfl
theorem u64_wrap {z : Int} (h1 : 0 ≤ z) (h2 : z < 18446744073709551616) : IntKind.u64.wrap z = z := by
 simp only [IntKind.wrap, IntKind.signed, IntKind.bits]; simp; omega
theorem rep_step {e z : Value} {n k q : Nat} (hk : k + q ≤ n) : (List.replicate k e ++ List.replicate (n - k) z).take k ++ List.replicate q e ++ (List.replicate k e ++ List.replicate (n - k) z).drop (k + (List.replicate q e).length) = List.replicate (k + q) e ++ List.replicate (n - (k + q)) z := by
 rw [List.take_left' (by simp), List.length_replicate, List.drop_append, List.drop_of_length_le (by simp), List.length_replicate, List.nil_append, List.drop_replicate, List.replicate_append_replicate]
 congr 2; omega
theorem flat_rep {sz : Nat} {e : Value} {g q k r : Nat} {z : Value} {u m m0 : PH} {t : TypeId} {n : Nat} (ho : ElsOK sz [e]) (hq : q ≤ k) (hsz : 0 < sz) (hA : ArrAt m0 m (.slice (some ⟨g, 0, none⟩) n n) t sz (List.replicate k e ++ List.replicate r z)) :
  ∀ w, Part u w → Part m w → ∀ (j : Nat) (v : Value), (flat (List.replicate q e))[j]? = some v → w.cell? ((⟨g, 0, none⟩ : Addr).add j) = some v := by
 intro w _ hp j v hj
 refine ElsP.cells (u := m) (b := g) (off := 0) hsz (fun i x hi => ?_) (ho.replicate q) hp j v hj
 have hlt : i < q := by
  rcases Nat.lt_or_ge i q with h | h
  ·exact h
  ·rw [List.getElem?_eq_none (by simpa using h)] at hi; cases hi
 have hx : x = e := by rw [List.getElem?_replicate, if_pos hlt] at hi; exact (Option.some.inj hi).symm
 subst hx
 refine hA.el ?_
 rw [List.getElem?_append_left (by simp; omega), List.getElem?_replicate, if_pos (by omega)]
set_option maxHeartbeats 1000000 in
theorem repeatS0 {u : PH} {v e : Value} {n : Nat} (h : ListP u v 1 [e]) (ho : ElsOK 1 [e]) (hn : n ≤ 1000000) :
  Fn0 Tryz.prog 47 [v, .int .i64 (n : Int)] u fun v' u' => ListP u' v' 1 (List.replicate n e) := by
 obtain ⟨a, c, rfl⟩ := h.opn
 have hea := ListP.at' h (j := 0) (e := e) rfl
 obtain ⟨b, off, rfl, hel⟩ := hea
 refine Fn0.of Tryz.func47 (by kernel_rfl) (by kernel_rfl) ?_
 refine G.lssF (n : Int) 0 (by kernel_rfl) (by omega) ?_
 refine G.convI .i64 .u64 .i64 1 1 (by kernel_rfl) (u64_wrap (by omega) (by omega)) ?_
 refine G.convI .i64 .u64 .i64 (n : Int) (n : Int) (by kernel_rfl) (u64_wrap (by omega) (by omega)) ?_
 refine G.call0 _ _ (by kernel_rfl) Tryz.call90 (bitsMul1 hn) ?_
 rintro v1 u1 l1 rfl
 refine G.cmpG .gtr .u64 0 0 false (by kernel_rfl) rfl rfl ?_
 refine G.cmpG .gtr .u64 (n : Int) 9223372036854775807 false (by kernel_rfl) rfl (by simp only [cmpZ, decide_eq_false_iff_not]; omega) ?_
 refine G.convI .u64 .i64 .u64 (n : Int) (n : Int) (by kernel_rfl) (i64_wrap (by omega) (by omega)) ?_
 refine G.make 34 1 16 (.string (mkS [])) n (by kernel_rfl) rfl rfl (by omega) (by omega) (by omega) ?_
 rintro v2 m2 hA ⟨a2, rfl⟩
 obtain ⟨g, rfl, hg⟩ := hA.some'
 have hmn : Nat.min 1 (n - 0) ≤ 1 := Nat.min_le_left _ _
 refine G.copyA 27 27 34 1 g n 0 ⟨b, off, none⟩ 1 c n 34 PH.mt (List.replicate n (.string (mkS []))) (List.replicate (Nat.min 1 (n - 0)) e) (by kernel_rfl) (by kernel_rfl) (by kernel_rfl) hA (ho.replicate _) (by simp) (Nat.zero_le _) (fun w hp _ j x hj => ?_) ?_
 ·refine ElsP.cells (u := u) (b := b) (off := off) (sz := 1) (by omega) (fun i y hi => ?_) (ho.replicate _) (fun g o hg => hp g o (l1 g o hg)) j x hj
  have hlt : i < Nat.min 1 (n - 0) := by
   rcases Nat.lt_or_ge i (Nat.min 1 (n - 0)) with h | h
   ·exact h
   ·rw [List.getElem?_eq_none (by simpa using h)] at hi; cases hi
  rw [List.getElem?_replicate, if_pos hlt] at hi
  have hy : y = e := (Option.some.inj hi).symm
  subst hy
  have : i = 0 := by omega
  subst this
  exact hel
 intro m3 hA3
 have hs3 := rep_step (e := e) (z := .string (mkS [])) (n := n) (k := 0) (q := Nat.min 1 (n - 0)) (by have : Nat.min 1 (n - 0) ≤ n - 0 := Nat.min_le_right _ _; omega)
 simp only [List.replicate_zero, List.nil_append, Nat.sub_zero, Nat.zero_add] at hs3 hA3
 rw [hs3] at hA3
 clear hs3
 refine G.loop (ι := Nat) (fun k => [(7, .v (.slice (some ⟨g, 0, none⟩) n n)), (8, .v (.int .i64 (k : Int)))]) (fun _ => [])
  (fun k u' m' => k ≤ n ∧ (k = 0 → n = 0) ∧ ArrAt PH.mt m' (.slice (some ⟨g, 0, none⟩) n n) 34 1 (List.replicate k e ++ List.replicate (n - k) (.string (mkS [])))) (fun k => n - k) (Nat.min 1 n) (by kernel_rfl) (fun _ => by kernel_rfl) ⟨by kernel_rfl, by kernel_rfl, by kernel_rfl⟩
  ⟨Nat.min_le_right _ _, fun h => by have h' : min 1 n = 0 := h; omega, hA3⟩ ?_
 rintro J k hJ u4 m4 l4 ⟨hk, hk0, hA4⟩
 by_cases hlt : k < n
 ·refine G.lssT (k : Int) (n : Int) (by kernel_rfl) (by omega) ?_
  refine G.sliceFrom g 0 n n k 1 (by kernel_rfl) (by omega) hlt ?_
  refine G.sliceTo 1 (some ⟨g, 0, none⟩) n n k (by kernel_rfl) (by omega) ?_
  have hq1 : Nat.min k (n - k) ≤ k := Nat.min_le_left _ _
  have hq2 : Nat.min k (n - k) ≤ n - k := Nat.min_le_right _ _
  have hq3 : 0 < Nat.min k (n - k) := by show 0 < min k (n - k); omega
  refine G.copyA 27 27 34 1 g n k ⟨g, 0, none⟩ k n (n - k) 34 PH.mt _ (List.replicate (Nat.min k (n - k)) e) (by kernel_rfl) (by kernel_rfl) (by kernel_rfl) hA4 (ho.replicate _) (by simp) hk (flat_rep ho hq1 (by omega) hA4) ?_
  intro m5 hA5
  rw [rep_step (by omega)] at hA5
  generalize Nat.min k (n - k) = q at *
  refine G.add (k : Int) (q : Int) ((k + q : Nat) : Int) (by kernel_rfl) (by omega) (by omega) (by omega) ?_
  exact G.back (by kernel_rfl) (hJ (k + q) _ _ _ ⟨by kernel_rfl, by kernel_rfl, by kernel_rfl⟩ l4 ⟨by omega, by omega, hA5⟩ (by omega))
 ·obtain rfl : k = n := by omega
  refine G.lssF (k : Int) (k : Int) (by kernel_rfl) (by omega) ?_
  rw [Nat.sub_self, List.replicate_zero, List.append_nil] at hA4
  refine G.give PH.mt _ _ (by kernel_rfl) hA4 (fun _ => .inl rfl) ?_
  intro u5 l5 hL
  exact G.ret (.slice (some ⟨g, 0, none⟩) k k) (by kernel_rfl) ⟨rfl, hL⟩
set_option maxHeartbeats 1000000 in
theorem repeatF0 {u : PH} {v e : Value} {n : Nat} (h : ListP u v 4 [e]) (ho : ElsOK 4 [e]) (hn : n ≤ 1000000) :
  Contract Tryz.prog 92 [v, .int .i64 (n : Int)] u PH.mt fun v' u' m' => ArrAt PH.mt m' v' 90 4 (List.replicate n e) := by
 obtain ⟨a, c, rfl⟩ := h.opn
 have hea := ListP.at' h (j := 0) (e := e) rfl
 obtain ⟨b, off, rfl, hel⟩ := hea
 refine Contract.of Tryz.func92 (by kernel_rfl) (by kernel_rfl) ?_
 refine G.lssF (n : Int) 0 (by kernel_rfl) (by omega) ?_
 refine G.convI .i64 .u64 .i64 1 1 (by kernel_rfl) (u64_wrap (by omega) (by omega)) ?_
 refine G.convI .i64 .u64 .i64 (n : Int) (n : Int) (by kernel_rfl) (u64_wrap (by omega) (by omega)) ?_
 refine G.call0 _ _ (by kernel_rfl) Tryz.call90 (bitsMul1 hn) ?_
 rintro v1 u1 l1 rfl
 refine G.cmpG .gtr .u64 0 0 false (by kernel_rfl) rfl rfl ?_
 refine G.cmpG .gtr .u64 (n : Int) 9223372036854775807 false (by kernel_rfl) rfl (by simp only [cmpZ, decide_eq_false_iff_not]; omega) ?_
 refine G.convI .u64 .i64 .u64 (n : Int) (n : Int) (by kernel_rfl) (i64_wrap (by omega) (by omega)) ?_
 refine G.make 90 4 64 (.agg #[.bool false, .slice none 0 0, .bool false, .slice none 0 0]) n (by kernel_rfl) rfl rfl (by omega) (by omega) (by omega) ?_
 rintro v2 m2 hA ⟨a2, rfl⟩
 obtain ⟨g, rfl, hg⟩ := hA.some'
 have hmn : Nat.min 1 (n - 0) ≤ 1 := Nat.min_le_left _ _
 refine G.copyA 81 81 90 4 g n 0 ⟨b, off, none⟩ 1 c n 90 PH.mt (List.replicate n (.agg #[.bool false, .slice none 0 0, .bool false, .slice none 0 0])) (List.replicate (Nat.min 1 (n - 0)) e) (by kernel_rfl) (by kernel_rfl) (by kernel_rfl) hA (ho.replicate _) (by simp) (Nat.zero_le _) (fun w hp _ j x hj => ?_) ?_
 ·refine ElsP.cells (u := u) (b := b) (off := off) (sz := 4) (by omega) (fun i y hi => ?_) (ho.replicate _) (fun g o hg => hp g o (l1 g o hg)) j x hj
  have hlt : i < Nat.min 1 (n - 0) := by
   rcases Nat.lt_or_ge i (Nat.min 1 (n - 0)) with h | h
   ·exact h
   ·rw [List.getElem?_eq_none (by simpa using h)] at hi; cases hi
  rw [List.getElem?_replicate, if_pos hlt] at hi
  have hy : y = e := (Option.some.inj hi).symm
  subst hy
  have : i = 0 := by omega
  subst this
  exact hel
 intro m3 hA3
 have hs3 := rep_step (e := e) (z := .agg #[.bool false, .slice none 0 0, .bool false, .slice none 0 0]) (n := n) (k := 0) (q := Nat.min 1 (n - 0)) (by have : Nat.min 1 (n - 0) ≤ n - 0 := Nat.min_le_right _ _; omega)
 simp only [List.replicate_zero, List.nil_append, Nat.sub_zero, Nat.zero_add] at hs3 hA3
 rw [hs3] at hA3
 clear hs3
 refine G.loop (ι := Nat) (fun k => [(7, .v (.slice (some ⟨g, 0, none⟩) n n)), (8, .v (.int .i64 (k : Int)))]) (fun _ => [])
  (fun k u' m' => k ≤ n ∧ (k = 0 → n = 0) ∧ ArrAt PH.mt m' (.slice (some ⟨g, 0, none⟩) n n) 90 4 (List.replicate k e ++ List.replicate (n - k) (.agg #[.bool false, .slice none 0 0, .bool false, .slice none 0 0]))) (fun k => n - k) (Nat.min 1 n) (by kernel_rfl) (fun _ => by kernel_rfl) ⟨by kernel_rfl, by kernel_rfl, by kernel_rfl⟩
  ⟨Nat.min_le_right _ _, fun h => by have h' : min 1 n = 0 := h; omega, hA3⟩ ?_
 rintro J k hJ u4 m4 l4 ⟨hk, hk0, hA4⟩
 by_cases hlt : k < n
 ·refine G.lssT (k : Int) (n : Int) (by kernel_rfl) (by omega) ?_
  refine G.sliceFrom g 0 n n k 4 (by kernel_rfl) (by omega) hlt ?_
  refine G.sliceTo 4 (some ⟨g, 0, none⟩) n n k (by kernel_rfl) (by omega) ?_
  have hq1 : Nat.min k (n - k) ≤ k := Nat.min_le_left _ _
  have hq2 : Nat.min k (n - k) ≤ n - k := Nat.min_le_right _ _
  have hq3 : 0 < Nat.min k (n - k) := by show 0 < min k (n - k); omega
  refine G.copyA 81 81 90 4 g n k ⟨g, 0, none⟩ k n (n - k) 90 PH.mt _ (List.replicate (Nat.min k (n - k)) e) (by kernel_rfl) (by kernel_rfl) (by kernel_rfl) hA4 (ho.replicate _) (by simp) hk (flat_rep ho hq1 (by omega) hA4) ?_
  intro m5 hA5
  rw [rep_step (by omega)] at hA5
  generalize Nat.min k (n - k) = q at *
  refine G.add (k : Int) (q : Int) ((k + q : Nat) : Int) (by kernel_rfl) (by omega) (by omega) (by omega) ?_
  exact G.back (by kernel_rfl) (hJ (k + q) _ _ _ ⟨by kernel_rfl, by kernel_rfl, by kernel_rfl⟩ l4 ⟨by omega, by omega, hA5⟩ (by omega))
 ·obtain rfl : k = n := by omega
  refine G.lssF (k : Int) (k : Int) (by kernel_rfl) (by omega) ?_
  rw [Nat.sub_self, List.replicate_zero, List.append_nil] at hA4
  exact G.ret (.slice (some ⟨g, 0, none⟩) k k) (by kernel_rfl) hA4
set_option maxHeartbeats 1000000 in
theorem repeatP0 {u : PH} {v e : Value} {n : Nat} (h : ListP u v 4 [e]) (ho : ElsOK 4 [e]) (hn : n ≤ 1000000) :
  Contract Tryz.prog 141 [v, .int .i64 (n : Int)] u PH.mt fun v' u' m' => ArrAt PH.mt m' v' 90 4 (List.replicate n e) := by
 obtain ⟨a, c, rfl⟩ := h.opn
 have hea := ListP.at' h (j := 0) (e := e) rfl
 obtain ⟨b, off, rfl, hel⟩ := hea
 refine Contract.of Tryz.func141 (by kernel_rfl) (by kernel_rfl) ?_
 refine G.lssF (n : Int) 0 (by kernel_rfl) (by omega) ?_
 refine G.convI .i64 .u64 .i64 1 1 (by kernel_rfl) (u64_wrap (by omega) (by omega)) ?_
 refine G.convI .i64 .u64 .i64 (n : Int) (n : Int) (by kernel_rfl) (u64_wrap (by omega) (by omega)) ?_
 refine G.call0 _ _ (by kernel_rfl) Tryz.call90 (bitsMul1 hn) ?_
 rintro v1 u1 l1 rfl
 refine G.cmpG .gtr .u64 0 0 false (by kernel_rfl) rfl rfl ?_
 refine G.cmpG .gtr .u64 (n : Int) 9223372036854775807 false (by kernel_rfl) rfl (by simp only [cmpZ, decide_eq_false_iff_not]; omega) ?_
 refine G.convI .u64 .i64 .u64 (n : Int) (n : Int) (by kernel_rfl) (i64_wrap (by omega) (by omega)) ?_
 refine G.make 90 4 64 (.agg #[.bool false, .slice none 0 0, .bool false, .slice none 0 0]) n (by kernel_rfl) rfl rfl (by omega) (by omega) (by omega) ?_
 rintro v2 m2 hA ⟨a2, rfl⟩
 obtain ⟨g, rfl, hg⟩ := hA.some'
 have hmn : Nat.min 1 (n - 0) ≤ 1 := Nat.min_le_left _ _
 refine G.copyA 82 82 90 4 g n 0 ⟨b, off, none⟩ 1 c n 90 PH.mt (List.replicate n (.agg #[.bool false, .slice none 0 0, .bool false, .slice none 0 0])) (List.replicate (Nat.min 1 (n - 0)) e) (by kernel_rfl) (by kernel_rfl) (by kernel_rfl) hA (ho.replicate _) (by simp) (Nat.zero_le _) (fun w hp _ j x hj => ?_) ?_
 ·refine ElsP.cells (u := u) (b := b) (off := off) (sz := 4) (by omega) (fun i y hi => ?_) (ho.replicate _) (fun g o hg => hp g o (l1 g o hg)) j x hj
  have hlt : i < Nat.min 1 (n - 0) := by
   rcases Nat.lt_or_ge i (Nat.min 1 (n - 0)) with h | h
   ·exact h
   ·rw [List.getElem?_eq_none (by simpa using h)] at hi; cases hi
  rw [List.getElem?_replicate, if_pos hlt] at hi
  have hy : y = e := (Option.some.inj hi).symm
  subst hy
  have : i = 0 := by omega
  subst this
  exact hel
 intro m3 hA3
 have hs3 := rep_step (e := e) (z := .agg #[.bool false, .slice none 0 0, .bool false, .slice none 0 0]) (n := n) (k := 0) (q := Nat.min 1 (n - 0)) (by have : Nat.min 1 (n - 0) ≤ n - 0 := Nat.min_le_right _ _; omega)
 simp only [List.replicate_zero, List.nil_append, Nat.sub_zero, Nat.zero_add] at hs3 hA3
 rw [hs3] at hA3
 clear hs3
 refine G.loop (ι := Nat) (fun k => [(7, .v (.slice (some ⟨g, 0, none⟩) n n)), (8, .v (.int .i64 (k : Int)))]) (fun _ => [])
  (fun k u' m' => k ≤ n ∧ (k = 0 → n = 0) ∧ ArrAt PH.mt m' (.slice (some ⟨g, 0, none⟩) n n) 90 4 (List.replicate k e ++ List.replicate (n - k) (.agg #[.bool false, .slice none 0 0, .bool false, .slice none 0 0]))) (fun k => n - k) (Nat.min 1 n) (by kernel_rfl) (fun _ => by kernel_rfl) ⟨by kernel_rfl, by kernel_rfl, by kernel_rfl⟩
  ⟨Nat.min_le_right _ _, fun h => by have h' : min 1 n = 0 := h; omega, hA3⟩ ?_
 rintro J k hJ u4 m4 l4 ⟨hk, hk0, hA4⟩
 by_cases hlt : k < n
 ·refine G.lssT (k : Int) (n : Int) (by kernel_rfl) (by omega) ?_
  refine G.sliceFrom g 0 n n k 4 (by kernel_rfl) (by omega) hlt ?_
  refine G.sliceTo 4 (some ⟨g, 0, none⟩) n n k (by kernel_rfl) (by omega) ?_
  have hq1 : Nat.min k (n - k) ≤ k := Nat.min_le_left _ _
  have hq2 : Nat.min k (n - k) ≤ n - k := Nat.min_le_right _ _
  have hq3 : 0 < Nat.min k (n - k) := by show 0 < min k (n - k); omega
  refine G.copyA 82 82 90 4 g n k ⟨g, 0, none⟩ k n (n - k) 90 PH.mt _ (List.replicate (Nat.min k (n - k)) e) (by kernel_rfl) (by kernel_rfl) (by kernel_rfl) hA4 (ho.replicate _) (by simp) hk (flat_rep ho hq1 (by omega) hA4) ?_
  intro m5 hA5
  rw [rep_step (by omega)] at hA5
  generalize Nat.min k (n - k) = q at *
  refine G.add (k : Int) (q : Int) ((k + q : Nat) : Int) (by kernel_rfl) (by omega) (by omega) (by omega) ?_
  exact G.back (by kernel_rfl) (hJ (k + q) _ _ _ ⟨by kernel_rfl, by kernel_rfl, by kernel_rfl⟩ l4 ⟨by omega, by omega, hA5⟩ (by omega))
 ·obtain rfl : k = n := by omega
  refine G.lssF (k : Int) (k : Int) (by kernel_rfl) (by omega) ?_
  rw [Nat.sub_self, List.replicate_zero, List.append_nil] at hA4
  exact G.ret (.slice (some ⟨g, 0, none⟩) k k) (by kernel_rfl) hA4
end Go.Proofs.YtldokelpolbnnaaGreatDoor
end
section
namespace Go.Proofs.YtldokelpolbnnaaGreatDoor
def sg (q : Rat) : Int := if q < 0 then -1 else if 0 < q then 1 else 0
theorem sg_pos {q : Rat} (h : 0 < q) : sg q = 1 := by unfold sg; rw [if_neg (by grind), if_pos h]
theorem sg_neg {q : Rat} (h : q < 0) : sg q = -1 := by unfold sg; rw [if_pos h]
theorem sg_zero : sg 0 = 0 := by simp [sg]
theorem sg_cases (q : Rat) : (q < 0 ∧ sg q = -1) ∨ (q = 0 ∧ sg q = 0) ∨ (0 < q ∧ sg q = 1) := by
 by_cases h : q < 0
 ·exact .inl ⟨h, sg_neg h⟩
 ·by_cases h' : 0 < q
  ·exact .inr (.inr ⟨h', sg_pos h'⟩)
  ·have : q = 0 := by grind
   exact .inr (.inl ⟨this, by rw [this]; exact sg_zero⟩)
def chg : Int → List Rat → Nat
 | _, [] => 0
 | s, q :: l => if sg q = -s then chg (-s) l + 1 else chg s l
theorem chg_flip (s : Int) (hs : s = 1 ∨ s = -1) : ∀ l : List Rat, chg s l ≤ chg (-s) l + 1
 | [] => by simp [chg]
 | q :: l => by
  have ih := chg_flip s hs l
  have ih' := chg_flip (-s) (by omega) l
  rw [Int.neg_neg] at ih'
  unfold chg
  rw [Int.neg_neg]
  rcases hs with rfl | rfl <;> rcases sg_cases q with ⟨_, e⟩ | ⟨_, e⟩ | ⟨_, e⟩ <;> simp [e] at ih ih' ⊢ <;> omega
def mulL (r : Rat) : Rat → List Rat → List Rat
 | p, [] => [p]
 | p, c :: l => (p - r * c) :: mulL r c l
theorem neg_mul_pos {r c : Rat} (hr : 0 < r) (hc : 0 < c) : -(r * c) < 0 := by have := Rat.mul_pos hr hc; grind
theorem mul_neg_of {r c : Rat} (hr : 0 < r) (hc : c < 0) : r * c < 0 := by
 have := Rat.mul_pos hr (show 0 < -c by grind); grind
theorem chg_mul {r : Rat} (hr : 0 < r) : ∀ (l : List Rat), (∀ p, p ≠ 0 → chg (sg p) l + 1 ≤ chg (-(sg p)) (mulL r p l)) ∧ ∀ s, s = 1 ∨ s = -1 → chg s l ≤ chg s (mulL r 0 l)
 | [] => by
  refine ⟨fun p hp => ?_, fun s hs => by simp [chg]⟩
  simp [chg, mulL]
 | c :: l => by
  obtain ⟨iA, iB⟩ := chg_mul hr l
  refine ⟨fun p hp => ?_, fun s hs => ?_⟩
  ·rcases sg_cases p with ⟨hp1, e⟩ | ⟨hp1, e⟩ | ⟨hp1, e⟩
   ·rw [e]
    unfold mulL chg
    rcases sg_cases c with ⟨hc, ec⟩ | ⟨hc, ec⟩ | ⟨hc, ec⟩
    ·have i := iA c (by grind)
     have f := chg_flip 1 (by omega) (mulL r c l)
     rw [ec] at i ⊢
     rcases sg_cases (p - r * c) with ⟨_, eo⟩ | ⟨_, eo⟩ | ⟨_, eo⟩ <;> rw [eo] <;> simp at i f ⊢ <;> omega
    ·subst hc
     have i := iB (-1) (by omega)
     have : p - r * 0 = p := by grind
     rw [this, e, ec]
     simp at i ⊢; omega
    ·have i := iA c (by grind)
     have ho : p - r * c < 0 := by have := Rat.mul_pos hr hc; grind
     rw [sg_neg ho, ec] at *
     simp at i ⊢; omega
   ·exact absurd hp1 hp
   ·rw [e]
    unfold mulL chg
    rcases sg_cases c with ⟨hc, ec⟩ | ⟨hc, ec⟩ | ⟨hc, ec⟩
    ·have i := iA c (by grind)
     have ho : 0 < p - r * c := by have := mul_neg_of hr hc; grind
     rw [sg_pos ho, ec] at *
     simp at i ⊢; omega
    ·subst hc
     have i := iB 1 (by omega)
     have : p - r * 0 = p := by grind
     rw [this, e, ec]
     simp at i ⊢; omega
    ·have i := iA c (by grind)
     have f := chg_flip (-1) (by omega) (mulL r c l)
     rw [ec] at i ⊢
     rcases sg_cases (p - r * c) with ⟨_, eo⟩ | ⟨_, eo⟩ | ⟨_, eo⟩ <;> rw [eo] <;> simp at i f ⊢ <;> omega
  ·unfold mulL chg
   have e0 : (0 : Rat) - r * c = -(r * c) := by grind
   rw [e0]
   rcases sg_cases c with ⟨hc, ec⟩ | ⟨hc, ec⟩ | ⟨hc, ec⟩
   ·have i := iA c (by grind)
    have ho : 0 < -(r * c) := by have := mul_neg_of hr hc; grind
    rw [sg_pos ho, ec]
    rw [ec] at i
    have f := chg_flip (-1) (by omega) l
    rcases hs with rfl | rfl <;> simp at i f ⊢ <;> omega
   ·subst hc
    have i := iB s hs
    have : -(r * 0) = 0 := by grind
    rw [this, ec]
    rcases hs with rfl | rfl <;> simp at i ⊢ <;> omega
   ·have i := iA c (by grind)
    have ho := neg_mul_pos hr hc
    rw [sg_neg ho, ec]
    rw [ec] at i
    have f := chg_flip 1 (by omega) l
    rcases hs with rfl | rfl <;> simp at i f ⊢ <;> omega
theorem sg_negate (c : Rat) : sg (-c) = -(sg c) := by
 rcases sg_cases c with ⟨h, e⟩ | ⟨h, e⟩ | ⟨h, e⟩
 ·rw [e, sg_pos (by grind)]; rfl
 ·subst h; simp [sg]
 ·rw [e, sg_neg (by grind)]
def zer : List Rat → Nat
 | [] => 0
 | q :: l => if q = 0 then zer l + 1 else 0
def var (l : List Rat) : Nat := match l.drop (zer l) with
 | [] => 0
 | q :: r => chg (sg q) r
theorem var_zero (l : List Rat) : var (0 :: l) = var l := by unfold var; simp [zer]
theorem var_nz {q : Rat} (l : List Rat) (h : q ≠ 0) : var (q :: l) = chg (sg q) l := by unfold var; simp [zer, h]
theorem mul_nz {r c : Rat} (hr : r ≠ 0) (hc : c ≠ 0) : r * c ≠ 0 := by
 intro h
 rcases Rat.mul_eq_zero.1 h with h | h
 ·exact hr h
 ·exact hc h
theorem sg_mulpos {r c : Rat} (hr : 0 < r) : sg (r * c) = sg c := by
 rcases sg_cases c with ⟨h, e⟩ | ⟨h, e⟩ | ⟨h, e⟩
 ·rw [e, sg_neg (mul_neg_of hr h)]
 ·subst h; rw [Rat.mul_zero]
 ·rw [e, sg_pos (Rat.mul_pos hr h)]
theorem var_mul {r : Rat} (hr : 0 < r) : ∀ (l : List Rat), (∃ q ∈ l, q ≠ 0) → var l + 1 ≤ var (mulL r 0 l)
 | [], h => by simp at h
 | c :: l, h => by
  unfold mulL
  have e0 : (0 : Rat) - r * c = -(r * c) := by grind
  rw [e0]
  by_cases hc : c = 0
  ·subst hc
   rw [show -(r * 0) = (0 : Rat) by grind, var_zero, var_zero]
   refine var_mul hr l ?_
   obtain ⟨q, hq, hn⟩ := h
   simp at hq
   rcases hq with rfl | hq
   ·exact absurd rfl hn
   ·exact ⟨q, hq, hn⟩
  ·have hn : -(r * c) ≠ 0 := by have := mul_nz (by grind : r ≠ 0) hc; grind
   rw [var_nz _ hc, var_nz _ hn, sg_negate, sg_mulpos hr]
   exact (chg_mul hr l).1 c hc
theorem zer_le : ∀ l : List Rat, zer l ≤ l.length
 | [] => by simp [zer]
 | q :: l => by have := zer_le l; unfold zer; split <;> simp <;> omega
end Go.Proofs.YtldokelpolbnnaaGreatDoor
end
section
namespace Go.Proofs.YtldokelpolbnnaaGreatDoor
def gR (l : List Rat) (i : Nat) : Rat := l.getD i 0
def gM (M : List (List Rat)) (i : Nat) : List Rat := M.getD i []
def diagGo (c : Rat) : Nat → Nat → List (List Rat) → List (List Rat)
 | 0, _, M => M
 | f + 1, i, M => diagGo c f (i + 1) (M.set i ((gM M i).set i (gR (gM M i) i + c)))
def sumGo (row : List Rat) (M : List (List Rat)) (j : Nat) : Nat → Nat → Rat → Rat
 | 0, _, s => s
 | f + 1, m, s => sumGo row M j f (m + 1) (s + gR row m * gR (gM M m) j)
def rowGo (row : List Rat) (M : List (List Rat)) (n : Nat) : Nat → Nat → List Rat → List Rat
 | 0, _, l => l
 | f + 1, j, l => rowGo row M n f (j + 1) (l ++ [sumGo row M j n 0 0])
def nextGo (A M : List (List Rat)) (n : Nat) : Nat → Nat → List (List Rat) → Rat → List (List Rat) × Rat
 | 0, _, N, t => (N, t)
 | f + 1, i, N, t => nextGo A M n f (i + 1) (N ++ [rowGo (gM A i) M n n 0 []]) (t + gR (rowGo (gM A i) M n n 0 []) i)
def charGo (A : List (List Rat)) (n : Nat) : Nat → Nat → List (List Rat) → List Rat → List Rat
 | 0, _, _, out => out
 | f + 1, k, M, out => charGo A n f (k + 1) (nextGo A (diagGo (gR out 0) n 0 M) n n 0 [] 0).1 ((nextGo A (diagGo (gR out 0) n 0 M) n n 0 [] 0).2 / ((-(k : Int) : Int) : Rat) :: out)
def charL (A : List (List Rat)) : List Rat := charGo A A.length A.length 1 (List.replicate A.length (List.replicate A.length 0)) [1]
def horGo (x : Rat) (i : Nat) : Nat → List Rat → List Rat
 | 0, l => l
 | k + 1, l => if k < i then l else horGo x i k (l.set k (gR l k + x * gR l (k + 1)))
def shiftGo (x : Rat) : Nat → Nat → List Rat → List Rat
 | 0, _, l => l
 | f + 1, i, l => shiftGo x f (i + 1) (horGo x i (l.length - 1) l)
def shiftL (x : Rat) (p : List Rat) : List Rat := shiftGo x p.length 0 p
def lessL (p : List Rat) (x : Rat) : Int := (p.length : Int) - 1 - (zer (shiftL x p) : Int) - (var (shiftL x p) : Int)
def equalL (p : List Rat) (x : Rat) : Nat := zer (shiftL x p)
theorem char1 (a : Rat) : charL [[a]] = [-a, 1] := by
 simp [charL, charGo, nextGo, rowGo, sumGo, diagGo, gR, gM]
 grind
theorem char2 (a b c d : Rat) : charL [[a, b], [c, d]] = [a * d - b * c, -a - d, 1] := by
 simp [charL, charGo, nextGo, rowGo, sumGo, diagGo, gR, gM]
 grind
theorem char3 (a b c d e f g h i : Rat) : charL [[a, b, c], [d, e, f], [g, h, i]] = [-(a * (e * i - f * h) - b * (d * i - f * g) + c * (d * h - e * g)), a * e - b * d + a * i - c * g + e * i - f * h, -a - e - i, 1] := by
 simp [charL, charGo, nextGo, rowGo, sumGo, diagGo, gR, gM]
 grind
theorem shift3 (x a b c d : Rat) : shiftL x [a, b, c, d] = [a + x * b + x * x * c + x * x * x * d, b + 2 * x * c + 3 * x * x * d, c + 3 * x * d, d] := by
 simp [shiftL, shiftGo, horGo, gR]
 grind
theorem shift2 (x a b c : Rat) : shiftL x [a, b, c] = [a + x * b + x * x * c, b + 2 * x * c, c] := by
 simp [shiftL, shiftGo, horGo, gR]
 grind
theorem shift1 (x a b : Rat) : shiftL x [a, b] = [a + x * b, b] := by
 simp [shiftL, shiftGo, horGo, gR]
end Go.Proofs.YtldokelpolbnnaaGreatDoor
end
section
namespace Go.Proofs.YtldokelpolbnnaaGreatDoor
def movM (m : Rat) (B : List (List Rat)) : List (List Rat) := diagGo m B.length 0 B
def SqN (n : Nat) (B : List (List Rat)) : Prop := B.length = n ∧ ∀ r ∈ B, r.length = n
theorem mov1 (m a : Rat) : movM m [[a]] = [[a + m]] := by simp [movM, diagGo, gR, gM]
theorem mov2 (m a b c d : Rat) : movM m [[a, b], [c, d]] = [[a + m, b], [c, d + m]] := by simp [movM, diagGo, gR, gM]
theorem mov3 (m a b c d e f g h i : Rat) : movM m [[a, b, c], [d, e, f], [g, h, i]] = [[a + m, b, c], [d, e + m, f], [g, h, i + m]] := by simp [movM, diagGo, gR, gM]
theorem sq1 {B : List (List Rat)} (h : SqN 1 B) : ∃ a, B = [[a]] := by
 obtain ⟨h1, h2⟩ := h
 obtain ⟨r, rfl⟩ := List.length_eq_one_iff.1 h1
 obtain ⟨a, rfl⟩ := List.length_eq_one_iff.1 (h2 r (by simp))
 exact ⟨a, rfl⟩
theorem len2 {α : Type} {l : List α} (h : l.length = 2) : ∃ a b, l = [a, b] := by
 match l, h with
 | [a, b], _ => exact ⟨a, b, rfl⟩
theorem len3 {α : Type} {l : List α} (h : l.length = 3) : ∃ a b c, l = [a, b, c] := by
 match l, h with
 | [a, b, c], _ => exact ⟨a, b, c, rfl⟩
theorem sq2 {B : List (List Rat)} (h : SqN 2 B) : ∃ a b c d, B = [[a, b], [c, d]] := by
 obtain ⟨h1, h2⟩ := h
 obtain ⟨r, s, rfl⟩ := len2 h1
 obtain ⟨a, b, rfl⟩ := len2 (h2 r (by simp))
 obtain ⟨c, d, rfl⟩ := len2 (h2 s (by simp))
 exact ⟨a, b, c, d, rfl⟩
theorem sq3 {B : List (List Rat)} (h : SqN 3 B) : ∃ a b c d e f g h i, B = [[a, b, c], [d, e, f], [g, h, i]] := by
 obtain ⟨h1, h2⟩ := h
 obtain ⟨r, s, t, rfl⟩ := len3 h1
 obtain ⟨a, b, c, rfl⟩ := len3 (h2 r (by simp))
 obtain ⟨d, e, f, rfl⟩ := len3 (h2 s (by simp))
 obtain ⟨g, h, i, rfl⟩ := len3 (h2 t (by simp))
 exact ⟨a, b, c, d, e, f, g, h, i, rfl⟩
theorem moves (B : List (List Rat)) (x m : Rat) (n : Nat) (hB : SqN n B) (h0 : n ≠ 0) (h : n ≤ 3) : shiftL (x + m) (charL (movM m B)) = shiftL x (charL B) := by
 match n, h0, h with
 | 1, _, _ =>
  obtain ⟨a, rfl⟩ := sq1 hB
  rw [mov1, char1, char1, shift1, shift1]; simp only [List.cons.injEq, and_true]; grind
 | 2, _, _ =>
  obtain ⟨a, b, c, d, rfl⟩ := sq2 hB
  rw [mov2, char2, char2, shift2, shift2]; simp only [List.cons.injEq, and_true]; grind
 | 3, _, _ =>
  obtain ⟨a, b, c, d, e, f, g, h, i, rfl⟩ := sq3 hB
  rw [mov3, char3, char3, shift3, shift3]; simp only [List.cons.injEq, and_true]; grind
end Go.Proofs.YtldokelpolbnnaaGreatDoor
end
section
namespace Go.Proofs.YtldokelpolbnnaaGreatDoor
def trimGo (p : List Rat) : Nat → Nat
 | 0 => 0
 | n + 1 => if gR p n = 0 then trimGo p n else n + 1
def trimL (p : List Rat) : List Rat := p.take (trimGo p p.length)
def derGo (p : List Rat) : Nat → Nat → List Rat → List Rat
 | 0, _, out => out
 | f + 1, i, out => derGo p f (i + 1) (out ++ [gR p i * (((i : Nat) : Int) : Rat)])
def derL (p : List Rat) : List Rat := derGo p (p.length - 1) 1 []
def subGo (q : List Rat) (f : Rat) (at' : Nat) : Nat → Nat → List Rat → List Rat
 | 0, _, R => R
 | k + 1, i, R => subGo q f at' k (i + 1) (R.set (at' + i) (gR R (at' + i) - f * gR q i))
def divGo (q : List Rat) : Nat → List Rat → List Rat → List Rat × List Rat
 | 0, Q, R => (Q, R)
 | n + 1, Q, R => divGo q n (Q.set n (gR R (n + q.length - 1) / gR q (q.length - 1))) (subGo q (gR R (n + q.length - 1) / gR q (q.length - 1)) n q.length 0 R)
def divL (p q : List Rat) : List Rat × List Rat := divGo q (p.length + 1 - q.length) (List.replicate (p.length + 1 - q.length) 0) p
def quoL (p q : List Rat) : List Rat := (divL p q).1
def remL (p q : List Rat) : List Rat := trimL (divL p q).2
def withinL (p : List Rat) (low high : Rat) : Int := lessL p high + (equalL p high : Int) - lessL p low - (equalL p low : Int)
end Go.Proofs.YtldokelpolbnnaaGreatDoor
end
section
set_option linter.unusedSectionVars false
set_option linter.unusedVariables false
namespace Go.Proofs.YtldokelpolbnnaaGreatDoor
open Go.RowKit
section rules
variable {P : Program} [Mixed P] {fn : Func} {Post : Spec} {st : List KI × S} {u m : PH}
theorem guard_slice {op : BinOp} {a b : Option Addr} {n c n' c' : Nat} (t : TypeId) (X Y : Operand) (w : World) : (eqGuard op t X Y (.slice a n c) (.slice b n' c')).run P w = .ok () w := by
 unfold eqGuard; split <;> simp
theorem G.nilF (e : TypeId) (a : Addr) (n c : Nat) (h : stopV P (adv P st) = .binT .eql (some (.slice e)) (.slice (some a) n c) (.slice none 0 0)) (k : G P fn Post (nx (adv P st) (.bool false)) u m) : G P fn Post st u m := by
 refine G.ask h (by simp) (fun env o hview w _ => ?_) k
 obtain ⟨t, X, Y, yt, e0, e1, e2, e3⟩ := view_binT hview
 obtain ⟨dst, opp, type, pos, after, guard⟩ := o
 simp only at e0; subst e0
 have : (Op.equal t (.slice (some a) n c) (.slice none 0 0)).run P w = .ok false w := by
  unfold Op.equal
  rw [show Op.maxDepth = 9999 + 1 from rfl, Op.equalIn]
  simp [run_underlying e3]
 simp [execOp, e1, e2, guard_slice, binOp, this]
theorem G.build0 (e : TypeId) (sz bt : Nat) (z : Value) (h : stopV P (adv P st) = .buildS (some (e, sz, bt, z)) 0 []) (k : ∀ g m', ArrAt m m' (.slice (some ⟨g, 0, none⟩) 0 0) e sz [] → G P fn Post (nx (adv P st) (.slice (some ⟨g, 0, none⟩) 0 0)) u m') : G P fn Post st u m := by
 refine G.big (K := fun v' u' m' => u' = u ∧ PH.le m m' ∧ ∃ g, v' = .slice (some ⟨g, 0, none⟩) 0 0 ∧ ArrAt m m' (.slice (some ⟨g, 0, none⟩) 0 0) e sz []) h (by simp) (fun env op hv => ?_) (.inl fun v u' m' hk => hk.2.1) (fun env o hview w hgd => ?_) (fun v' u' m' hle hk => ?_)
 ·obtain ⟨t, qs, rfl, _⟩ := view_buildS hv; rfl
 ·obtain ⟨t, qs, e1, e2, hi⟩ := view_buildS hview
  obtain ⟨dst, opp, type, pos, after, guard⟩ := o
  simp only at e1; subst e1
  obtain ⟨hu, i, hi1, hi2, rfl, rfl⟩ := elInfo_spec hi
  obtain ⟨g1, g2, g3, g4⟩ := hgd.newM (cs := #[]) (t := e) (by simp)
  refine does_value (w' := w.alloc (.cells #[] e (0, 0))) (v := .slice (some ⟨w.heap.size, 0, none⟩) 0 0) ?_ ⟨u, _, g1, g2, rfl, le_upd _ g3, _, rfl, fun _ h => absurd h (by simp), .inr ⟨w.heap.size, 0, [], g3, rfl, rfl, Nat.le_refl _, by simp [flat], by simp⟩⟩
  simp only [execOp, e2]
  have e0 : ∀ f : Nat → Value, Array.map f (Array.range 0) = #[] := fun f => by apply Array.eq_empty_of_size_eq_zero; simp
  simp [Instr.buildSlice, run_underlying hu, sizeOf, typeInfo, hi1, newRow, Instr.fill, e0]
 ·obtain ⟨rfl, _, g, rfl, hk⟩ := hk
  exact k g m' hk
end rules
theorem ListP.take' {u : PH} {a : Option Addr} {n c sz : Nat} {es : List Value} (h : ListP u (.slice a n c) sz es) (k : Nat) (hk : k ≤ es.length) : ListP u (.slice a k c) sz (es.take k) := by
 obtain ⟨a', c', h1, h2, h3⟩ := h
 simp only [Value.slice.injEq] at h1
 obtain ⟨rfl, _, rfl⟩ := h1
 refine ⟨a, c, by rw [List.length_take, Nat.min_eq_left hk], by rw [List.length_take]; omega, fun j e hj => ?_⟩
 rw [List.getElem?_take] at hj
 split at hj
 ·exact h3 j e hj
 ·cases hj
theorem AtP.take {α : Type} {R : PH → Value → α → Prop} {u : PH} {es : List Value} {xs : List α} (h : AtP R u es xs) (k : Nat) : AtP R u (es.take k) (xs.take k) := by
 refine ⟨by simp [h.1], fun j x hj => ?_⟩
 rw [List.getElem?_take] at hj ⊢
 split at hj
 ·rename_i hlt; rw [if_pos hlt]; exact h.2 j x hj
 ·cases hj
theorem AtP.at {α : Type} {R : PH → Value → α → Prop} {u : PH} {es : List Value} {xs : List α} (h : AtP R u es xs) {j : Nat} (hj : j < xs.length) : ∃ e, es[j]? = some e ∧ R u e xs[j] := h.2 j _ (List.getElem?_eq_getElem hj)
theorem FracsP.opn {u : PH} {v : Value} {qs : List Rat} (h : FracsP u v qs) : ∃ a c, v = .slice a qs.length c := h.lp.opn
theorem FracsP.at {u : PH} {a : Option Addr} {n c : Nat} {qs : List Rat} (h : FracsP u (.slice a n c) qs) {j : Nat} (hj : j < qs.length) : ∃ b off b1 a1 n1 c1 b2 a2 n2 c2, a = some ⟨b, off, none⟩ ∧ ElP u b (off + j * 4) (.agg #[.bool b1, .slice a1 n1 c1, .bool b2, .slice a2 n2 c2]) ∧ FracP u (.agg #[.bool b1, .slice a1 n1 c1, .bool b2, .slice a2 n2 c2]) (gR qs j) := by
 obtain ⟨b, off, e, rfl, h1, h2⟩ := h.lp.at (List.getElem?_eq_getElem hj)
 obtain ⟨b1, a1, n1, c1, b2, a2, n2, c2, rfl⟩ := h2.opn
 refine ⟨b, off, b1, a1, n1, c1, b2, a2, n2, c2, rfl, h1, ?_⟩
 have : gR qs j = qs[j] := by simp [gR, hj]
 rw [this]; exact h2
theorem AtP.ok4 {u : PH} {es : List Value} {qs : List Rat} (h : AtP FracP u es qs) : ElsOK 4 es := by
 intro e he
 obtain ⟨j, hj, rfl⟩ := List.mem_iff_getElem.1 he
 obtain ⟨e', h1, h2⟩ := h.2 j (qs[j]'(by rw [← h.1]; exact hj)) (List.getElem?_eq_getElem _)
 rw [List.getElem?_eq_getElem hj] at h1
 rw [Option.some.inj h1]
 exact h2.ok _ (by simp)
theorem gR_at {l : List Rat} {i : Nat} (h : i < l.length) : gR l i = l[i] := by simp [gR, h]
theorem gR_mem {l : List Rat} {i : Nat} (h : i < l.length) : gR l i ∈ l := by rw [gR_at h]; exact List.getElem_mem h
def SzL (p : List Rat) (k : Nat) : Prop := ∀ q ∈ p, Sz q k
theorem SzL.at {p : List Rat} {k i : Nat} (h : SzL p k) (hi : i < p.length) : Sz (gR p i) k := h _ (gR_mem hi)
theorem SzL.mono {p : List Rat} {j k : Nat} (h : SzL p j) (hjk : j ≤ k) : SzL p k := fun q hq => (h q hq).mono hjk
theorem sgn_num (q : Rat) : sgn q.num = sg q := by
 rcases sg_cases q with ⟨h, e⟩ | ⟨h, e⟩ | ⟨h, e⟩
 ·rw [e]; refine sgn_neg ?_
  have : ¬ (0 ≤ q.num) := fun h' => by have := Rat.num_nonneg.1 h'; grind
  omega
 ·subst h; rw [e]; rfl
 ·rw [e]; refine sgn_pos ?_
  have h1 : 0 ≤ q.num := Rat.num_nonneg.2 (by grind)
  have h2 : q.num ≠ 0 := fun h' => by have := Rat.num_eq_zero.1 h'; grind
  omega
theorem sg_eq_zero {q : Rat} : sg q = 0 ↔ q = 0 := by
 rcases sg_cases q with ⟨h, e⟩ | ⟨h, e⟩ | ⟨h, e⟩
 ·rw [e]; constructor
  ·intro h'; omega
  ·intro h'; subst h'; simp at h
 ·exact ⟨fun _ => h, fun _ => e⟩
 ·rw [e]; constructor
  ·intro h'; omega
  ·intro h'; subst h'; simp at h
theorem fracSignS {u : PH} {x : Value} {q : Rat} (h : FracP u x q) {k : Nat} (hs : Sz q k) (hk : k ≤ 100000000000000) : Fn0 Tryz.prog 95 [x] u fun v _ => v = .int .i64 (sg q) := by
 rw [← sgn_num]; exact fracSign0 h (Nat.le_trans hs.1 hk)
theorem clonePoly0 {u : PH} {v : Value} {es : List Value} (h : ListP u v 4 es) (ho : ElsOK 4 es) (h0 : es ≠ []) (hn : es.length ≤ 1000000) :
  Contract Tryz.prog 94 [v] u PH.mt fun v' u' m' => ArrAt PH.mt m' v' 90 4 es := by
 obtain ⟨a, c, rfl⟩ := h.opn
 have hpos : 0 < es.length := List.length_pos_iff.2 h0
 obtain ⟨b, off, rfl, _⟩ := ListP.at' h (List.getElem?_eq_getElem hpos)
 refine Contract.of Tryz.func94 (by kernel_rfl) (by kernel_rfl) ?_
 refine G.nilF 90 ⟨b, off, none⟩ es.length c (by kernel_rfl) ?_
 refine G.build0 90 4 64 (.agg #[.bool false, .slice none 0 0, .bool false, .slice none 0 0]) (by kernel_rfl) ?_
 intro g m1 hA
 refine G.append 90 4 64 (.agg #[.bool false, .slice none 0 0, .bool false, .slice none 0 0]) PH.mt [] es (.slice (some ⟨g, 0, none⟩) 0 0) b off es.length c (by kernel_rfl) rfl rfl (by omega) hA h.els ho rfl hpos (by simp; omega) (by simp; omega) ?_
 intro v2 m2 hA2
 obtain ⟨a2, c2, rfl⟩ := hA2.shape
 exact G.ret _ (by kernel_rfl) hA2
set_option maxHeartbeats 1000000 in
theorem trim0 {u : PH} {v : Value} {p : List Rat} {k : Nat} (h : FracsP u v p) (hs : SzL p k) (hk : k ≤ 100000000000000) (hn : p.length ≤ 1000000) :
  Fn0 Tryz.prog 143 [v] u fun v' u' => FracsP u' v' (trimL p) := by
 obtain ⟨a, c, rfl⟩ := h.opn
 refine Fn0.of Tryz.func143 (by kernel_rfl) (by kernel_rfl) ?_
 refine G.loop (ι := Nat) (fun n => [(0, .v (.slice a p.length c)), (3, .v (.int .i64 (n : Int)))]) (fun _ => [])
  (fun n u' m' => n ≤ p.length ∧ trimGo p n = trimGo p p.length ∧ m' = PH.mt) (fun n => n) p.length (by kernel_rfl) (fun _ => by kernel_rfl) ⟨by kernel_rfl, by kernel_rfl, by kernel_rfl⟩ ⟨Nat.le_refl _, rfl, rfl⟩ ?_
 rintro J n hJ u1 m1 l1 ⟨hle, hgo, rfl⟩
 have fin : ∀ u2, PH.le u1 u2 → trimGo p n = n → FracsP u2 (.slice a n c) (trimL p) := by
  intro u2 l2 e
  obtain ⟨es, e1, e2⟩ := h
  have hl : es.length = p.length := e2.1
  unfold trimL
  rw [← hgo, e]
  exact ⟨es.take n, (e1.take' n (by omega)).mono (l1.trans l2), (AtP.take (show AtP FracP u es p from e2) n).mono (fun _ _ h => h.mono (l1.trans l2))⟩
 have hcap : p.length ≤ c := by
  obtain ⟨es, ⟨a', c', e1, e2, _⟩, e3⟩ := h
  simp only [Value.slice.injEq] at e1
  omega
 by_cases hpos : 0 < n
 ·obtain ⟨n', rfl⟩ : ∃ n', n = n' + 1 := ⟨n - 1, by omega⟩
  refine G.gtrT ((n' + 1 : Nat) : Int) 0 (by kernel_rfl) (by omega) ?_
  refine G.sub ((n' + 1 : Nat) : Int) 1 (n' : Int) (by kernel_rfl) (by omega) (by omega) (by omega) ?_
  obtain ⟨b, off, b1, a1, n1, c1, b2, a2, n2, c2, rfl, e1, e2⟩ := (h.mono l1).at (j := n') (by omega)
  refine G.addr b off p.length c n' 4 (by kernel_rfl) (by omega) ?_
  refine G.loadU (some 4) b (off + n' * 4) _ (by kernel_rfl) (by kernel_rfl) e1 ?_
  refine G.call0 _ _ (by kernel_rfl) Tryz.call95 (fracSignS e2 (hs.at (by omega)) hk) ?_
  rintro v2 u2 l2 rfl
  by_cases hz : gR p n' = 0
  ·refine G.eqlT (sg (gR p n')) 0 (by kernel_rfl) (sg_eq_zero.2 hz) ?_
   refine G.sub ((n' + 1 : Nat) : Int) 1 (n' : Int) (by kernel_rfl) (by omega) (by omega) (by omega) ?_
   refine G.back (by kernel_rfl) (hJ n' _ _ _ ⟨by kernel_rfl, by kernel_rfl, by kernel_rfl⟩ (l1.trans l2) ⟨by omega, ?_, rfl⟩ (by omega))
   rw [← hgo, trimGo, if_pos hz]
  ·refine G.eqlF (sg (gR p n')) 0 (by kernel_rfl) (fun h => hz (sg_eq_zero.1 h)) ?_
   refine G.sliceTo 4 (some ⟨b, off, none⟩) p.length c (n' + 1) (by kernel_rfl) (by omega) ?_
   exact G.ret _ (by kernel_rfl) ⟨rfl, fin _ l2 (by rw [trimGo, if_neg hz])⟩
 ·obtain rfl : n = 0 := by omega
  refine G.gtrF ((0 : Nat) : Int) 0 (by kernel_rfl) (by omega) ?_
  refine G.sliceTo 4 a p.length c 0 (by kernel_rfl) (by omega) ?_
  exact G.ret _ (by kernel_rfl) ⟨rfl, fin _ (PH.le_refl _) rfl⟩
theorem sz_one {z : Int} (h : z.natAbs < 1000000000) : Sz (z : Rat) 1 := ⟨nl_le_of_lt (by simpa using h), nl_le_of_lt (by simp)⟩
theorem sz_add2 {q r : Rat} {j k : Nat} (h : Sz q j) (h' : Sz r k) : Sz (q + r) (j + k + 1) := by
 rw [← add_new q r]
 have a1 := nl_mul q.num.natAbs r.den
 have a2 := nl_mul r.num.natAbs q.den
 have a3 := nl_mul q.den r.den
 have a4 := nl_add (q.num.natAbs * r.den) (r.num.natAbs * q.den)
 have a5 : (q.num * (r.den : Int) + r.num * (q.den : Int)).natAbs ≤ q.num.natAbs * r.den + r.num.natAbs * q.den := by
  refine Nat.le_trans (Int.natAbs_add_le _ _) ?_
  rw [Int.natAbs_mul, Int.natAbs_mul]; simp
 have a6 := nl_mono a5
 have := h.1; have := h.2; have := h'.1; have := h'.2
 exact sz_divInt (den_pos2 q r) (by omega) (by rw [Int.natAbs_mul]; simp only [Int.natAbs_natCast]; omega)
theorem sz_neg {q : Rat} {k : Nat} (h : Sz q k) : Sz (-q) k := ⟨by rw [Rat.neg_num, Int.natAbs_neg]; exact h.1, by rw [Rat.neg_den]; exact h.2⟩
theorem sz_sub2 {q r : Rat} {j k : Nat} (h : Sz q j) (h' : Sz r k) : Sz (q - r) (j + k + 1) := by
 rw [Rat.sub_eq_add_neg]; exact sz_add2 h (sz_neg h')
theorem sz_mul2 {q r : Rat} {j k : Nat} (h : Sz q j) (h' : Sz r k) : Sz (q * r) (j + k) := by
 rw [← mul_new q r]
 have a1 := nl_mul q.num.natAbs r.num.natAbs
 have a3 := nl_mul q.den r.den
 have := h.1; have := h.2; have := h'.1; have := h'.2
 exact sz_divInt (den_pos2 q r) (by rw [Int.natAbs_mul]; omega) (by rw [Int.natAbs_mul]; simp only [Int.natAbs_natCast]; omega)
set_option maxHeartbeats 1000000 in
theorem derivative0 {u : PH} {v : Value} {p : List Rat} {k : Nat} (h : FracsP u v p) (hs : SzL p k) (hk : k ≤ 100000000000) (hn : p.length ≤ 1000000) :
  Fn0 Tryz.prog 101 [v] u fun v' u' => FracsP u' v' (derL p) := by
 obtain ⟨a, c, rfl⟩ := h.opn
 refine Fn0.of Tryz.func101 (by kernel_rfl) (by kernel_rfl) ?_
 refine G.loop (ι := Nat × List Value × List Rat × (Option Addr × Nat × Nat)) (fun i => [(0, .v (.slice a p.length c)), (3, .v (.slice i.2.2.2.1 i.2.2.2.2.1 i.2.2.2.2.2)), (4, .v (.int .i64 ((i.1 + 1 : Nat) : Int)))]) (fun _ => [])
  (fun i u' m' => i.1 ≤ p.length - 1 ∧ derGo p (p.length - 1 - i.1) (i.1 + 1) i.2.2.1 = derL p ∧ i.2.2.1.length = i.1 ∧ AtP FracP u' i.2.1 i.2.2.1 ∧ ArrAt PH.mt m' (.slice i.2.2.2.1 i.2.2.2.2.1 i.2.2.2.2.2) 90 4 i.2.1) (fun i => p.length - 1 - i.1) (0, [], [], (none, 0, 0)) (by kernel_rfl) (fun _ => by kernel_rfl) ⟨by kernel_rfl, by kernel_rfl, by kernel_rfl⟩
  ⟨Nat.zero_le _, rfl, rfl, AtP.nil, ArrAt.nil _ _ _⟩ ?_
 rintro J ⟨i, es, out, ⟨a1, n1, c1⟩⟩ hJ u1 m1 l1 ⟨hi, hgo, hlo, hF, hA⟩
 simp only at hi hgo hlo hF hA hJ
 have hel := hF.1
 by_cases hlt : i + 1 < p.length
 ·refine G.lssT ((i + 1 : Nat) : Int) (p.length : Int) (by kernel_rfl) (by omega) ?_
  obtain ⟨b, off, b1, a1', n1', c1', b2, a2, n2, c2, rfl, e1, e2⟩ := (h.mono l1).at (j := i + 1) hlt
  refine G.addr b off p.length c (i + 1) 4 (by kernel_rfl) hlt ?_
  refine G.loadU (some 4) b (off + (i + 1) * 4) _ (by kernel_rfl) (by kernel_rfl) e1 ?_
  refine G.call0 _ _ (by kernel_rfl) Tryz.call60 (fracOf0 (z := ((i + 1 : Nat) : Int)) (by omega) (by omega)) ?_
  intro v2 u2 l2 k2
  obtain ⟨b3, a3, n3, c3, b3', a3', n3', c3', rfl⟩ := k2.opn
  refine G.call0 _ _ (by kernel_rfl) Tryz.call93 (fracMul0 (e2.mono l2) k2 ((hs.at hlt).mono (by omega)) ((sz_one (by omega)).mono (by omega))) ?_
  intro v4 u4 l4 k4
  obtain ⟨b5, a5, n5, c5, b5', a5', n5', c5', rfl⟩ := k4.opn
  refine G.buildU 90 4 64 (.agg #[.bool false, .slice none 0 0, .bool false, .slice none 0 0]) [.agg #[.bool b5, .slice a5 n5 c5, .bool b5', .slice a5' n5' c5']] (by kernel_rfl) k4.ok rfl (by omega) (by simp) (by simp) ?_
  intro g u6 l6 e6
  refine G.append 90 4 64 (.agg #[.bool false, .slice none 0 0, .bool false, .slice none 0 0]) PH.mt es [.agg #[.bool b5, .slice a5 n5 c5, .bool b5', .slice a5' n5' c5']] (.slice a1 n1 c1) g 0 1 1 (by kernel_rfl) rfl rfl (by omega) hA e6 k4.ok rfl (by omega) (by omega) (by omega) ?_
  intro v7 m7 hA7
  obtain ⟨a7, c7, rfl⟩ := hA7.shape
  refine G.add ((i + 1 : Nat) : Int) 1 ((i + 1 + 1 : Nat) : Int) (by kernel_rfl) (by omega) (by omega) (by omega) ?_
  refine G.back (by kernel_rfl) (hJ (i + 1, es ++ [.agg #[.bool b5, .slice a5 n5 c5, .bool b5', .slice a5' n5' c5']], out ++ [gR p (i + 1) * ((((i + 1 : Nat) : Nat) : Int) : Rat)], (a7, (es ++ [Value.agg #[.bool b5, .slice a5 n5 c5, .bool b5', .slice a5' n5' c5']]).length, c7)) _ _ _ ⟨by kernel_rfl, by kernel_rfl, by kernel_rfl⟩ (((l1.trans l2).trans l4).trans l6) ⟨by dsimp only; omega, ?_, by dsimp only; simp [hlo], ?_, hA7⟩ (by dsimp only; omega))
  ·dsimp only
   rw [← hgo, show p.length - 1 - i = (p.length - 1 - (i + 1)) + 1 by omega, derGo]
  ·exact (hF.mono (fun _ _ h => h.mono ((l2.trans l4).trans l6))).snoc (k4.mono l6)
 ·refine G.lssF ((i + 1 : Nat) : Int) (p.length : Int) (by kernel_rfl) (by omega) ?_
  refine G.give PH.mt es _ (by kernel_rfl) hA (fun _ => .inl rfl) ?_
  intro u3 l3 hL
  rw [show p.length - 1 - i = 0 by omega, derGo] at hgo
  rw [hgo] at hF
  exact G.ret (.slice a1 n1 c1) (by kernel_rfl) ⟨rfl, es, hL, hF.mono (fun _ _ h => h.mono l3)⟩
end Go.Proofs.YtldokelpolbnnaaGreatDoor
end
section
set_option linter.unusedSectionVars false
set_option linter.unusedVariables false
namespace Go.Proofs.YtldokelpolbnnaaGreatDoor
open Go.RowKit
def bd (S T : Nat) : Nat → Nat
 | 0 => S
 | t + 1 => bd S T t + (T + bd S T t) + 1
theorem bd_eq (S T : Nat) : ∀ t, bd S T t + (T + 1) = 2 ^ t * (S + T + 1)
 | 0 => by simp [bd]; omega
 | t + 1 => by
  have := bd_eq S T t
  rw [Nat.pow_succ, Nat.mul_comm (2 ^ t) 2, Nat.mul_assoc, ← this]
  simp only [bd]; omega
theorem bd_le {S T t : Nat} (ht : t ≤ 20) (h : S + T + 1 ≤ 500000) : bd S T t ≤ 1000000000000 := by
 have h1 := bd_eq S T t
 have h2 : 2 ^ t ≤ 2 ^ 20 := Nat.pow_le_pow_right (by omega) ht
 have h3 : 2 ^ t * (S + T + 1) ≤ 2 ^ 20 * 500000 := Nat.mul_le_mul h2 h
 omega
theorem bd_mono (S T t : Nat) : bd S T t ≤ bd S T (t + 1) := by simp only [bd]; omega
theorem SzL.set {p : List Rat} {k i : Nat} {q : Rat} (h : SzL p k) (hq : Sz q k) : SzL (p.set i q) k := by
 intro x hx
 rcases List.mem_or_eq_of_mem_set hx with hx | rfl
 ·exact h x hx
 ·exact hq
theorem horGo_length (x : Rat) (i : Nat) : ∀ (k : Nat) (l : List Rat), (horGo x i k l).length = l.length
  | 0, l => rfl
  | k + 1, l => by unfold horGo; split
                   · rfl
                   · rw [horGo_length x i k]; simp
theorem shiftGo_length (x : Rat) : ∀ (f i : Nat) (l : List Rat), (shiftGo x f i l).length = l.length
 | 0, _, l => rfl
 | f + 1, i, l => by unfold shiftGo; rw [shiftGo_length x f, horGo_length]
theorem shiftL_length (x : Rat) (p : List Rat) : (shiftL x p).length = p.length := shiftGo_length ..
theorem zer_lt : ∀ {l : List Rat} {i : Nat}, i < zer l → gR l i = 0
  | [], i, h => by simp [zer] at h
  | q :: l, 0, h => by unfold zer at h; split at h; · rename_i e; simp [gR, e]
                       · omega
  | q :: l, i + 1, h => by
    unfold zer at h; split at h
    · have := zer_lt (l := l) (i := i) (by omega)
      simpa [gR] using this
    · omega
theorem zer_at : ∀ {l : List Rat}, zer l < l.length → gR l (zer l) ≠ 0
 | [], h => by simp [zer] at h
 | q :: l, h => by
  unfold zer at h ⊢; split
  ·rename_i e
   rw [if_pos e] at h
   have := zer_at (l := l) (by simp at h; omega)
   simpa [gR] using this
  ·rename_i e; simpa [gR] using e
theorem var_start {l : List Rat} (h : zer l < l.length) : chg (sg (gR l (zer l))) (l.drop (zer l)) = var l := by
 unfold var
 have e : l.drop (zer l) = l[zer l] :: l.drop (zer l + 1) := List.drop_eq_getElem_cons h
 rw [e, gR_at h]
 simp only [chg]
 rw [if_neg]
 intro h'
 have : sg l[zer l] = 0 := by omega
 have := sg_eq_zero.1 this
 have h2 := zer_at h
 rw [gR_at h] at h2
 exact h2 this
theorem sg_abs (q : Rat) : -1 ≤ sg q ∧ sg q ≤ 1 := by rcases sg_cases q with ⟨_, e⟩ | ⟨_, e⟩ | ⟨_, e⟩ <;> rw [e] <;> omega
theorem chg_le : ∀ (l : List Rat) (s : Int), chg s l ≤ l.length
 | [], s => by simp [chg]
 | q :: l, s => by
  have i1 := chg_le l s
  have i2 := chg_le l (-s)
  unfold chg; split <;> simp <;> omega
theorem var_le (l : List Rat) : var l ≤ l.length := by
 unfold var
 split
 ·omega
 ·rename_i q r e
  have h1 := chg_le r (sg q)
  have h2 : (l.drop (zer l)).length = (q :: r).length := by rw [e]
  simp at h2; omega
set_option maxHeartbeats 4000000 in
theorem below0 {u : PH} {v y : Value} {p : List Rat} {x : Rat} {S T : Nat} (h : FracsP u v p) (hy : FracP u y x) (hs : SzL p S) (hx : Sz x T) (hST : S + T + 1 ≤ 500000) (hn : p.length ≤ 5) (hz : zer (shiftL x p) < p.length) :
  Fn0 Tryz.prog 49 [v, y] u fun v' _ => v' = .tuple #[.int .i64 (lessL p x), .int .i64 (equalL p x : Int)] := by
 obtain ⟨a, c, rfl⟩ := h.opn
 have hpos : 0 < p.length := by omega
 obtain ⟨es0, hL0, hF0⟩ := id h
 have hF0' : AtP FracP u es0 p := hF0
 have hel0 : es0.length = p.length := hF0.1
 have hyo := hy.opn
 obtain ⟨yb, ya, yn, yc, yb', ya', yn', yc', rfl⟩ := hyo
 refine Fn0.of Tryz.func49 (by kernel_rfl) (by kernel_rfl) ?_
 refine G.callO _ _ (by kernel_rfl) Tryz.call94 (clonePoly0 hL0 hF0'.ok4 (by intro e; rw [e] at hel0; simp at hel0; omega) (by omega)) ?_
 intro v1 u1 m1 l1 hA1 hf1
 rw [mt_or]
 obtain ⟨g, cap, rfl⟩ := hA1.ptr (by intro e; rw [e] at hel0; simp at hel0; omega)
 have hcap1 := hA1.cap
 rw [hel0] at hA1 hcap1 ⊢
 generalize hN : p.length = n at *
 have szt : ∀ {q : Rat} {t : Nat}, Sz q (bd S T t) → t ≤ 20 → Sz q 1000000000000 := fun h1 h2 => h1.mono (bd_le h2 hST)
 refine G.loop (ι := Nat × List Value × List Rat × Nat) (fun i => [(0, .v (.slice a n c)), (3, .p 0 0), (5, .v (.int .i64 0)), (6, .v (.slice (some ⟨g, 0, none⟩) n cap)), (16, .v (.int .i64 (n : Int))), (17, .v (.int .i64 (i.1 : Int)))])
  (fun _ => [(0, ⟨90, [.v (.bool yb), .v (.slice ya yn yc), .v (.bool yb'), .v (.slice ya' yn' yc')]⟩)])
  (fun i u' m' => i.1 ≤ n ∧ i.2.2.1.length = n ∧ shiftGo x (n - i.1) i.1 i.2.2.1 = shiftL x p ∧ i.2.2.2 ≤ 4 * i.1 ∧ SzL i.2.2.1 (bd S T i.2.2.2) ∧ AtP FracP u' i.2.1 i.2.2.1 ∧ ArrAt PH.mt m' (.slice (some ⟨g, 0, none⟩) n cap) 90 4 i.2.1)
  (fun i => n - i.1) (0, es0, p, 0) (by kernel_rfl) (fun _ => by kernel_rfl) ⟨by kernel_rfl, by kernel_rfl, by kernel_rfl⟩
  ⟨Nat.zero_le _, hN, by dsimp only; rw [Nat.sub_zero, ← hN]; rfl, Nat.le_refl _, hs, hF0'.mono (fun _ _ h => h.mono l1), hA1⟩ ?_
 rintro J ⟨i, es, cur, t⟩ hJ u2 m2 l2 ⟨hi, hcl, hgo, ht, hsz, hF, hA⟩
 simp only at hi hcl hgo ht hsz hF hA hJ
 by_cases hlt : i < n
 ·refine G.lssT (i : Int) (n : Int) (by kernel_rfl) (by omega) ?_
  refine G.sub (n : Int) 2 ((n : Int) - 2) (by kernel_rfl) rfl (by omega) (by omega) ?_
  refine G.loop (ι := Int × Nat × List Value × List Rat × Nat) (fun j => [(0, .v (.slice a n c)), (3, .p 0 0), (5, .v (.int .i64 0)), (6, .v (.slice (some ⟨g, 0, none⟩) n cap)), (7, .v (.int .i64 (i : Int))), (8, .v (.int .i64 j.1)), (16, .v (.int .i64 (n : Int))), (17, .v (.int .i64 (i : Int)))])
   (fun _ => [(0, ⟨90, [.v (.bool yb), .v (.slice ya yn yc), .v (.bool yb'), .v (.slice ya' yn' yc')]⟩)])
   (fun j u' m' => j.1 = (j.2.1 : Int) - 1 ∧ j.2.1 ≤ n - 1 ∧ j.2.2.2.1.length = n ∧ horGo x i j.2.1 j.2.2.2.1 = horGo x i (n - 1) cur ∧ j.2.2.2.2 ≤ 4 * i + (n - 1 - j.2.1) ∧ SzL j.2.2.2.1 (bd S T j.2.2.2.2) ∧ AtP FracP u' j.2.2.1 j.2.2.2.1 ∧ ArrAt PH.mt m' (.slice (some ⟨g, 0, none⟩) n cap) 90 4 j.2.2.1)
   (fun j => j.2.1) ((n : Int) - 2, n - 1, es, cur, t) (by kernel_rfl) (fun _ => by kernel_rfl) ⟨by kernel_rfl, by kernel_rfl, by kernel_rfl⟩
   ⟨by dsimp only; omega, Nat.le_refl _, hcl, rfl, by dsimp only; omega, hsz, hF, hA⟩ ?_
  rintro J2 ⟨zk, kk, es2, cur2, t2⟩ hJ2 u3 m3 l3 ⟨hzk, hkk, hcl2, hgo2, ht2, hsz2, hF2, hA2⟩
  simp only at hzk hkk hcl2 hgo2 ht2 hsz2 hF2 hA2 hJ2
  have hel2 := hF2.1
  by_cases hge : (i : Int) ≤ zk
  ·obtain ⟨k, rfl⟩ : ∃ k : Nat, zk = (k : Int) := ⟨zk.toNat, by omega⟩
   obtain rfl : kk = k + 1 := by omega
   refine G.geqT (k : Int) (i : Int) (by kernel_rfl) (by omega) ?_
   have hk : k < cur2.length := by omega
   have hk1 : k + 1 < cur2.length := by omega
   obtain ⟨e1, he1, hf1'⟩ := hF2.at hk
   obtain ⟨x1, x2, x3, x4, x5, x6, x7, x8, rfl⟩ := hf1'.opn
   obtain ⟨e2, he2, hf2'⟩ := hF2.at hk1
   obtain ⟨z1, z2, z3, z4, z5, z6, z7, z8, rfl⟩ := hf2'.opn
   refine G.addr g 0 n cap k 4 (by kernel_rfl) (by omega) ?_
   refine G.loadM (some 4) g (0 + k * 4) _ (by kernel_rfl) (by kernel_rfl) (hA2.el he1) ?_
   refine G.add (k : Int) 1 ((k + 1 : Nat) : Int) (by kernel_rfl) (by omega) (by omega) (by omega) ?_
   refine G.addr g 0 n cap (k + 1) 4 (by kernel_rfl) (by omega) ?_
   refine G.loadM (some 4) g (0 + (k + 1) * 4) _ (by kernel_rfl) (by kernel_rfl) (hA2.el he2) ?_
   have hl : PH.le u u3 := l1.trans (l2.trans l3)
   have hsa : Sz cur2[k] (bd S T t2) := hsz2 _ (List.getElem_mem hk)
   have hsb : Sz cur2[k + 1] (bd S T t2) := hsz2 _ (List.getElem_mem hk1)
   have hsm := sz_mul2 hx hsb
   have hsn := sz_add2 hsa hsm
   refine G.call0 _ _ (by kernel_rfl) Tryz.call93 (fracMul0 (hy.mono hl) hf2' (hx.mono (by omega)) (szt hsb (by omega))) ?_
   intro v4 u4 l4 k4
   obtain ⟨y1, y2, y3, y4, y5, y6, y7, y8, rfl⟩ := k4.opn
   refine G.call0 _ _ (by kernel_rfl) Tryz.call59 (fracAdd0 (hf1'.mono l4) k4 (szt hsa (by omega)) (hsm.mono (by have := bd_le (t := t2 + 1) (S := S) (T := T) (by omega) hST; simp only [bd] at this; omega))) ?_
   intro v5 u5 l5 k5
   obtain ⟨w1, w2, w3, w4, w5, w6, w7, w8, rfl⟩ := k5.opn
   refine G.addr g 0 n cap k 4 (by kernel_rfl) (by omega) ?_
   refine G.storeA 4 PH.mt es2 g n cap k (.agg #[.bool w1, .slice w2 w3 w4, .bool w5, .slice w6 w7 w8]) (by kernel_rfl) hA2 (by omega) rfl rfl ?_
   intro m6 hA6
   refine G.sub (k : Int) 1 ((k : Int) - 1) (by kernel_rfl) rfl (by omega) (by omega) ?_
   refine G.back (by kernel_rfl) (hJ2 ((k : Int) - 1, k, es2.set k (.agg #[.bool w1, .slice w2 w3 w4, .bool w5, .slice w6 w7 w8]), cur2.set k (cur2[k] + x * cur2[k + 1]), t2 + 1) _ _ _ ⟨by kernel_rfl, by kernel_rfl, by kernel_rfl⟩ ((l3.trans l4).trans l5) ⟨rfl, by dsimp only; omega, by simp [hcl2], ?_, by dsimp only; omega, ?_, ?_, hA6⟩ (by dsimp only; omega))
   ·dsimp only
    rw [← hgo2, horGo, if_neg (by omega), gR_at hk, gR_at hk1]
   ·exact (hsz2.mono (bd_mono S T t2)).set hsn
   ·exact (hF2.mono (fun _ _ h => h.mono (l4.trans l5))).set k k5
  ·refine G.geqF zk (i : Int) (by kernel_rfl) (by omega) ?_
   have hend : horGo x i kk cur2 = cur2 := by
    cases kk with
    | zero => rfl
    | succ k => rw [horGo, if_pos (by omega)]
   refine G.add (i : Int) 1 ((i + 1 : Nat) : Int) (by kernel_rfl) (by omega) (by omega) (by omega) ?_
   refine G.back (by kernel_rfl) (hJ (i + 1, es2, cur2, t2) _ _ _ ⟨by kernel_rfl, by kernel_rfl, by kernel_rfl⟩ (l2.trans l3) ⟨by dsimp only; omega, hcl2, ?_, by dsimp only; omega, hsz2, hF2, hA2⟩ (by dsimp only; omega))
   dsimp only
   rw [← hgo, show n - i = (n - (i + 1)) + 1 by omega, shiftGo, hcl, ← hgo2, hend]
 ·obtain rfl : i = n := by omega
  refine G.lssF (i : Int) (i : Int) (by kernel_rfl) (by omega) ?_
  rw [Nat.sub_self, shiftGo] at hgo
  have hlz : zer cur < cur.length := by rw [hgo, shiftL_length, hN]; exact hz
  have hel := hF.1
  have hvl := var_le cur
  refine G.loop (ι := Nat) (fun e => [(0, .v (.slice a i c)), (5, .v (.int .i64 (e : Int))), (6, .v (.slice (some ⟨g, 0, none⟩) i cap))]) (fun _ => [])
   (fun e u' m' => e ≤ zer cur ∧ m' = m2) (fun e => zer cur - e) 0 (by kernel_rfl) (fun _ => by kernel_rfl) ⟨by kernel_rfl, by kernel_rfl, by kernel_rfl⟩ ⟨Nat.zero_le _, rfl⟩ ?_
  rintro J2 e hJ2 u3 m3 l3 ⟨he, rfl⟩
  have hec : e < cur.length := by omega
  obtain ⟨e1, he1, hf1'⟩ := hF.at hec
  obtain ⟨x1, x2, x3, x4, x5, x6, x7, x8, rfl⟩ := hf1'.opn
  rw [← gR_at hec] at hf1'
  refine G.addr g 0 i cap e 4 (by kernel_rfl) (by omega) ?_
  refine G.loadM (some 4) g (0 + e * 4) _ (by kernel_rfl) (by kernel_rfl) (hA.el he1) ?_
  have hb20 := bd_le (t := t) (S := S) (T := T) (by omega) hST
  refine G.call0 _ _ (by kernel_rfl) Tryz.call95 (fracSignS (hf1'.mono l3) (hsz.at hec) (by omega)) ?_
  rintro v4 u4 l4 rfl
  by_cases hlt2 : e < zer cur
  ·refine G.eqlT (sg (gR cur e)) 0 (by kernel_rfl) (sg_eq_zero.2 (zer_lt hlt2)) ?_
   refine G.add (e : Int) 1 ((e + 1 : Nat) : Int) (by kernel_rfl) (by omega) (by omega) (by omega) ?_
   exact G.back (by kernel_rfl) (hJ2 (e + 1) _ _ _ ⟨by kernel_rfl, by kernel_rfl, by kernel_rfl⟩ (l3.trans l4) ⟨by omega, rfl⟩ (by omega))
  ·obtain rfl : e = zer cur := by omega
   refine G.eqlF (sg (gR cur (zer cur))) 0 (by kernel_rfl) (fun h => zer_at hlz (sg_eq_zero.1 h)) ?_
   generalize hE : zer cur = E at *
   refine G.addr g 0 i cap E 4 (by kernel_rfl) (by omega) ?_
   refine G.loadM (some 4) g (0 + E * 4) _ (by kernel_rfl) (by kernel_rfl) (hA.el he1) ?_
   refine G.call0 _ _ (by kernel_rfl) Tryz.call95 (fracSignS (hf1'.mono (l3.trans l4)) (hsz.at hec) (by omega)) ?_
   rintro v5 u5 l5 rfl
   refine G.sliceFrom g 0 i cap E 4 (by kernel_rfl) (by omega) (by omega) ?_
   have hvs := var_start (l := cur) (by rw [hE]; exact hec)
   rw [hE] at hvs
   have hsa := sg_abs (gR cur E)
   refine G.loop (ι := Nat × Nat × Int) (fun j => [(0, .v (.slice a i c)), (5, .v (.int .i64 (E : Int))), (9, .v (.int .i64 (j.2.1 : Int))), (10, .v (.int .i64 j.2.2)), (59, .v (.slice (some ⟨g, 0 + E * 4, none⟩) (i - E) (cap - E))), (60, .v (.int .i64 ((i - E : Nat) : Int))), (61, .v (.int .i64 (j.1 : Int)))]) (fun _ => [])
    (fun j u' m' => j.1 ≤ i - E ∧ j.2.1 ≤ j.1 ∧ j.2.1 + chg j.2.2 (cur.drop (E + j.1)) = var cur ∧ -1 ≤ j.2.2 ∧ j.2.2 ≤ 1 ∧ m' = m3) (fun j => i - E - j.1) (0, 0, sg (gR cur E)) (by kernel_rfl) (fun _ => by kernel_rfl) ⟨by kernel_rfl, by kernel_rfl, by kernel_rfl⟩
    ⟨Nat.zero_le _, Nat.le_refl _, by dsimp only; rw [Nat.add_zero, Nat.zero_add]; exact hvs, hsa.1, hsa.2, rfl⟩ ?_
   rintro J3 ⟨j, gr, s⟩ hJ3 u6 m6 l6 ⟨hj, hgr, hch, hs1, hs2, rfl⟩
   simp only at hj hgr hch hs1 hs2 hJ3
   by_cases hltj : j < i - E
   ·refine G.lssT (j : Int) ((i - E : Nat) : Int) (by kernel_rfl) (by omega) ?_
    have hjc : E + j < cur.length := by omega
    obtain ⟨e7, he7, hf7⟩ := hF.at hjc
    obtain ⟨w1, w2, w3, w4, w5, w6, w7, w8, rfl⟩ := hf7.opn
    rw [← gR_at hjc] at hf7
    have hEl := hA.el he7
    rw [show 0 + (E + j) * 4 = 0 + E * 4 + j * 4 by omega] at hEl
    refine G.addr g (0 + E * 4) (i - E) (cap - E) j 4 (by kernel_rfl) hltj ?_
    refine G.loadM (some 4) g (0 + E * 4 + j * 4) _ (by kernel_rfl) (by kernel_rfl) hEl ?_
    refine G.call0 _ _ (by kernel_rfl) Tryz.call95 (fracSignS (hf7.mono (((l3.trans l4).trans l5).trans l6)) (hsz.at hjc) (by omega)) ?_
    rintro v8 u8 l8 rfl
    refine G.neg s (-s) (by kernel_rfl) rfl (by omega) (by omega) ?_
    have hdr : cur.drop (E + j) = gR cur (E + j) :: cur.drop (E + j + 1) := by rw [gR_at hjc]; exact List.drop_eq_getElem_cons hjc
    rw [hdr, chg] at hch
    by_cases hq : sg (gR cur (E + j)) = -s
    ·rw [if_pos hq] at hch
     refine G.eqlT (sg (gR cur (E + j))) (-s) (by kernel_rfl) hq ?_
     refine G.add (gr : Int) 1 ((gr + 1 : Nat) : Int) (by kernel_rfl) (by omega) (by omega) (by omega) ?_
     refine G.neg s (-s) (by kernel_rfl) rfl (by omega) (by omega) ?_
     refine G.add (j : Int) 1 ((j + 1 : Nat) : Int) (by kernel_rfl) (by omega) (by omega) (by omega) ?_
     exact G.back (by kernel_rfl) (hJ3 (j + 1, gr + 1, -s) _ _ _ ⟨by kernel_rfl, by kernel_rfl, by kernel_rfl⟩ (l6.trans l8) ⟨by dsimp only; omega, by dsimp only; omega, by dsimp only; rw [show E + (j + 1) = E + j + 1 by omega]; omega, by dsimp only; omega, by dsimp only; omega, rfl⟩ (by dsimp only; omega))
    ·rw [if_neg hq] at hch
     refine G.eqlF (sg (gR cur (E + j))) (-s) (by kernel_rfl) hq ?_
     refine G.add (j : Int) 1 ((j + 1 : Nat) : Int) (by kernel_rfl) (by omega) (by omega) (by omega) ?_
     exact G.back (by kernel_rfl) (hJ3 (j + 1, gr, s) _ _ _ ⟨by kernel_rfl, by kernel_rfl, by kernel_rfl⟩ (l6.trans l8) ⟨by dsimp only; omega, by dsimp only; omega, by dsimp only; rw [show E + (j + 1) = E + j + 1 by omega]; omega, hs1, hs2, rfl⟩ (by dsimp only; omega))
   ·obtain rfl : j = i - E := by omega
    refine G.lssF ((i - E : Nat) : Int) ((i - E : Nat) : Int) (by kernel_rfl) (by omega) ?_
    rw [List.drop_of_length_le (by omega), chg] at hch
    refine G.sub (i : Int) 1 ((i : Int) - 1) (by kernel_rfl) rfl (by omega) (by omega) ?_
    refine G.sub ((i : Int) - 1) (E : Int) ((i : Int) - 1 - (E : Int)) (by kernel_rfl) rfl (by omega) (by omega) ?_
    refine G.sub ((i : Int) - 1 - (E : Int)) (gr : Int) ((i : Int) - 1 - (E : Int) - (gr : Int)) (by kernel_rfl) rfl (by omega) (by omega) ?_
    refine G.drop PH.mt (by kernel_rfl) (PH.mt_le _) ?_
    refine G.ret (.tuple #[.int .i64 ((i : Int) - 1 - (E : Int) - (gr : Int)), .int .i64 (E : Int)]) (by kernel_rfl) ⟨rfl, ?_⟩
    unfold lessL equalL
    rw [← hgo, hE, hN, ← hch]
    simp
end Go.Proofs.YtldokelpolbnnaaGreatDoor
end
section
set_option linter.unusedSectionVars false
set_option linter.unusedVariables false
namespace Go.Proofs.YtldokelpolbnnaaGreatDoor
open Go.RowKit
structure F4 where
 b : Bool
 a : Option Addr
 n : Nat
 c : Nat
 b' : Bool
 a' : Option Addr
 n' : Nat
 c' : Nat
def fv (f : F4) : Value := .agg #[.bool f.b, .slice f.a f.n f.c, .bool f.b', .slice f.a' f.n' f.c']
def fc (f : F4) : List SV := [.v (.bool f.b), .v (.slice f.a f.n f.c), .v (.bool f.b'), .v (.slice f.a' f.n' f.c')]
theorem FracP.opF {u : PH} {v : Value} {q : Rat} (h : FracP u v q) : ∃ f, v = fv f := by
 obtain ⟨b, a, n, c, b', a', n', c', rfl⟩ := h.opn; exact ⟨⟨b, a, n, c, b', a', n', c'⟩, rfl⟩
theorem fv_ok (f : F4) : ElsOK 4 [fv f] := by
 intro x hx
 simp at hx; subst hx
 exact ⟨rfl, fun y hy => by simp [fv, Value.cells] at hy; rcases hy with rfl | rfl | rfl | rfl <;> rfl⟩
def rowArr (r : Value × List Value) : Arr := ⟨r.1, 90, 4, r.2⟩
def outArr (v : Value) (es : List Value) : Arr := ⟨v, 90, 4, es⟩
def matArr (g n : Nat) (rows : List (Value × List Value)) : Arr := ⟨.slice (some ⟨g, 0, none⟩) n n, 81, 1, rows.map (·.1)⟩
theorem Bag.perm {l l' : List Arr} (h : l.Perm l') : ∀ {m : PH}, Bag m l → Bag m l' := by
 induction h with
 | nil => exact fun h => h
 | cons x _ ih => exact fun ⟨m0, h1, h2⟩ => ⟨m0, h1, ih h2⟩
 | swap x y l =>
  rintro m ⟨m1, hy, m0, hx, hl⟩
  obtain ⟨m2, k1, k2, _⟩ := At.swap hy hx
  exact ⟨m2, k2, m0, k1, hl⟩
 | trans _ _ h1 h2 => exact fun h => h2 (h1 h)
section bag
variable {o : Arr} {rows : List (Value × List Value)} {rest : List Arr} {i j n : Nat} {r r' : Value × List Value} {x x' : Arr}
theorem get_row (h : rows[i]? = some r) : (o :: (rows.map rowArr ++ rest))[i + 1]? = some (rowArr r) := by
 have hlt : i < rows.length := by
  rcases Nat.lt_or_ge i rows.length with h' | h'
  ·exact h'
  ·rw [List.getElem?_eq_none h'] at h; cases h
 rw [List.getElem?_cons_succ, List.getElem?_append_left (by simpa using hlt), List.getElem?_map, h]; rfl
theorem set_row (h : i < rows.length) : (o :: (rows.map rowArr ++ rest)).set (i + 1) (rowArr r') = o :: ((rows.set i r').map rowArr ++ rest) := by
 rw [List.set_cons_succ, List.set_append_left _ _ (by simpa using h), List.map_set]
theorem get_next (hn : rows.length = n) (h : rest[j]? = some x) : (o :: (rows.map rowArr ++ rest))[n + 1 + j]? = some x := by
 rw [show n + 1 + j = (n + j) + 1 by omega, List.getElem?_cons_succ, List.getElem?_append_right (by simp; omega)]
 simp [hn, h]
theorem set_next (hn : rows.length = n) : (o :: (rows.map rowArr ++ rest)).set (n + 1 + j) x' = o :: (rows.map rowArr ++ rest.set j x') := by
 rw [show n + 1 + j = (n + j) + 1 by omega, List.set_cons_succ, List.set_append_right _ _ (by simp; omega)]
 simp [hn]
end bag
def MAt (u : PH) (rows : List (Value × List Value)) (M : List (List Rat)) : Prop := rows.length = M.length ∧ ∀ (i : Nat) (r : Value × List Value), rows[i]? = some r → AtP FracP u r.2 (gM M i)
theorem MAt.mono {u u' : PH} {rows : List (Value × List Value)} {M : List (List Rat)} (h : MAt u rows M) (hl : PH.le u u') : MAt u' rows M := ⟨h.1, fun i r hr => (h.2 i r hr).mono (fun _ _ k => k.mono hl)⟩
theorem gM_set {M : List (List Rat)} {i j : Nat} {q : List Rat} (hi : i < M.length) : gM (M.set i q) j = if i = j then q else gM M j := by
 unfold gM
 simp only [List.getD_eq_getElem?_getD, List.getElem?_set]
 split
 ·rename_i e; subst e; simp
 ·rfl
theorem MAt.set {u : PH} {rows : List (Value × List Value)} {M : List (List Rat)} {i : Nat} {r : Value × List Value} {q : List Rat} (h : MAt u rows M) (hi : i < rows.length) (hr : AtP FracP u r.2 q) : MAt u (rows.set i r) (M.set i q) := by
 refine ⟨by simp [h.1], fun j r' hj => ?_⟩
 rw [gM_set (by rw [← h.1]; exact hi)]
 rw [List.getElem?_set] at hj
 by_cases e : i = j
 ·subst e
  rw [if_pos rfl, if_pos hi] at hj
  simp only [Option.some.injEq] at hj
  rw [if_pos rfl, ← hj]; exact hr
 ·rw [if_neg e] at hj ⊢
  exact h.2 j r' hj
def SqM (n : Nat) (M : List (List Rat)) : Prop := M.length = n ∧ ∀ i, i < n → (gM M i).length = n
def SzM (M : List (List Rat)) (k : Nat) : Prop := ∀ i j, i < M.length → j < (gM M i).length → Sz (gR (gM M i) j) k
theorem SzM.mono {M : List (List Rat)} {j k : Nat} (h : SzM M j) (hjk : j ≤ k) : SzM M k := fun a b h1 h2 => (h a b h1 h2).mono hjk
theorem SqM.set {n : Nat} {M : List (List Rat)} {i : Nat} {q : List Rat} (h : SqM n M) (hi : i < n) (hq : q.length = n) : SqM n (M.set i q) :=
  ⟨by simp [h.1], fun j hj => by rw [gM_set (by rw [h.1]; exact hi)]; split; · exact hq
                                 · exact h.2 j hj⟩
theorem gR_set {l : List Rat} {i j : Nat} {q : Rat} (hi : i < l.length) : gR (l.set i q) j = if i = j then q else gR l j := by
 unfold gR
 simp only [List.getD_eq_getElem?_getD, List.getElem?_set]
 split
 ·rename_i e; subst e; simp
 ·rfl
theorem gM_at {M : List (List Rat)} {i : Nat} (h : i < M.length) : gM M i = M[i] := by simp [gM, h]
def cb (T : Nat) : Nat → Nat
 | 0 => 1
 | k + 1 => 32 * cb T k + 16 * T + 42
theorem cb_le {T k : Nat} (hk : k ≤ 4) (hT : T ≤ 400) : cb T k ≤ 1000000000 := by
 have h0 : cb T 0 = 1 := rfl
 have h1 : cb T 1 = 32 * cb T 0 + 16 * T + 42 := rfl
 have h2 : cb T 2 = 32 * cb T 1 + 16 * T + 42 := rfl
 have h3 : cb T 3 = 32 * cb T 2 + 16 * T + 42 := rfl
 have h4 : cb T 4 = 32 * cb T 3 + 16 * T + 42 := rfl
 match k, hk with
 | 0, _ => omega
 | 1, _ => omega
 | 2, _ => omega
 | 3, _ => omega
 | 4, _ => omega
theorem sz_div {q r : Rat} {j k : Nat} (h : Sz q j) (h' : Sz r k) (hr : r ≠ 0) : Sz (q / r) (j + k) := by
 rw [← div_new q r]
 have a1 := nl_mul q.num.natAbs r.den
 have a3 := nl_mul q.den r.num.natAbs
 have b1 := h.1; have b2 := h.2; have b3 := h'.1; have b4 := h'.2
 have hn : r.num ≠ 0 := fun e => hr (Rat.num_eq_zero.1 e)
 have hd : (q.den : Int) ≠ 0 := by have := q.den_pos; omega
 have c1 : nl (q.num * (r.den : Int)).natAbs ≤ j + k := by rw [Int.natAbs_mul]; simp only [Int.natAbs_natCast]; omega
 have c2 : nl ((q.den : Int) * r.num).natAbs ≤ j + k := by rw [Int.natAbs_mul]; simp only [Int.natAbs_natCast]; omega
 rcases Int.lt_or_lt_of_ne (Int.mul_ne_zero hd hn) with hlt | hgt
 ·have e : Rat.divInt (q.num * (r.den : Int)) ((q.den : Int) * r.num) = Rat.divInt (-(q.num * (r.den : Int))) (-((q.den : Int) * r.num)) := (Rat.neg_divInt_neg _ _).symm
  rw [e]
  exact sz_divInt (by omega) (by rw [Int.natAbs_neg]; exact c1) (by rw [Int.natAbs_neg]; exact c2)
 ·exact sz_divInt hgt c1 c2
end Go.Proofs.YtldokelpolbnnaaGreatDoor
end
