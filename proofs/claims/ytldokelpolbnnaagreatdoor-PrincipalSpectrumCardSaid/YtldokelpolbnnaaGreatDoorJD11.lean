/- Joined out of parts of one proof by a program: contracts of the functions that the statement reaches, and the plain facts behind them. -/
import Derived.Test.YtldokelpolbnnaaGreatDoorJD10
set_option linter.unusedVariables false
set_option linter.unusedSimpArgs false
set_option linter.unusedSectionVars false
section
set_option linter.unusedSectionVars false
set_option linter.unusedVariables false
namespace Go.Proofs.YtldokelpolbnnaaGreatDoor
open Go.RowKit
def trGo (A : List (List Rat)) : Nat → Nat → Rat → Rat
  | 0, _, s => s
  | f + 1, i, s => trGo A f (i + 1) (s + gR (gM A i) i)
def trL (A : List (List Rat)) : Rat := trGo A A.length 0 0
set_option maxHeartbeats 4000000 in
theorem refShape0 {u : PH} {v : Value} {A : List (List Rat)} (h : MatP u v (matT A)) (hs : Sq A) : Fn0 Tryz.prog 67 [v] u fun v' _ => v' = .tuple #[.int .i64 (A.length : Int), .int .i64 (A.length : Int), .int .i64 0] := by
  obtain ⟨a, c, rfl⟩ := h.opn
  rw [matT_length] at h ⊢
  have hle := hs.le
  refine Fn0.of Tryz.func67 (by kernel_rfl) (by kernel_rfl) ?_
  by_cases h0 : 0 < A.length
  · refine G.gtrT (A.length : Int) 0 (by kernel_rfl) (by omega) ?_
    obtain ⟨b1, o1, a1, c1, rfl, e1, e2⟩ := h.row (matT_at (List.getElem?_eq_getElem h0))
    rw [List.length_map, hs.len h0] at e1 e2
    refine G.addr b1 o1 A.length c 0 1 (by kernel_rfl) h0 ?_
    refine G.loadU none b1 (o1 + 0 * 1) _ (by kernel_rfl) (by kernel_rfl) e1 ?_
    clear e1 e2
    obtain ⟨a, ha⟩ : ∃ a : Option Addr, a = some ⟨b1, o1, none⟩ := ⟨_, rfl⟩
    rw [← ha] at h ⊢
    clear ha
    refine G.gtrF (A.length : Int) 12 (by kernel_rfl) (by omega) ?_
    refine G.loop (ι := Nat) (fun i => [(0, .v (.slice a A.length c)), (5, .v (.int .i64 (A.length : Int))), (21, .v (.int .i64 (A.length : Int))), (22, .v (.int .i64 (i : Int)))]) (fun _ => [])
      (fun i u' m' => i ≤ A.length ∧ m' = PH.mt) (fun i => A.length - i) 0 (by kernel_rfl) (fun _ => by kernel_rfl) ⟨by kernel_rfl, by kernel_rfl, by kernel_rfl⟩ ⟨by omega, rfl⟩ ?_
    rintro J1 i hJ1 u1 m1 l1 ⟨hi, rfl⟩
    by_cases hlt : i < A.length
    · refine G.lssT (i : Int) (A.length : Int) (by kernel_rfl) (by omega) ?_
      obtain ⟨b1, o1, a1, c1, rfl, e1, e2⟩ := (h.mono l1).row (matT_at (List.getElem?_eq_getElem hlt))
      rw [List.length_map, hs.len hlt] at e1 e2
      refine G.addr b1 o1 A.length c i 1 (by kernel_rfl) hlt ?_
      refine G.loadU none b1 (o1 + i * 1) _ (by kernel_rfl) (by kernel_rfl) e1 ?_
      refine G.gtrF (A.length : Int) 12 (by kernel_rfl) (by omega) ?_
      refine G.add (i : Int) 1 ((i + 1 : Nat) : Int) (by kernel_rfl) (by omega) (by omega) (by omega) ?_
      exact G.back (by kernel_rfl) (hJ1 (i + 1) _ _ _ ⟨by kernel_rfl, by kernel_rfl, by kernel_rfl⟩ l1 ⟨by omega, rfl⟩ (by omega))
    obtain rfl : i = A.length := by omega
    clear hlt
    refine G.lssF (A.length : Int) (A.length : Int) (by kernel_rfl) (by omega) ?_
    clear hJ1
    refine G.loop (ι := Nat) (fun i => [(0, .v (.slice a A.length c)), (5, .v (.int .i64 (A.length : Int))), (33, .v (.int .i64 (A.length : Int))), (34, .v (.int .i64 (i : Int)))]) (fun _ => [])
      (fun i u' m' => i ≤ A.length ∧ m' = PH.mt) (fun i => A.length - i) 0 (by kernel_rfl) (fun _ => by kernel_rfl) ⟨by kernel_rfl, by kernel_rfl, by kernel_rfl⟩ ⟨by omega, rfl⟩ ?_
    rintro J2 i hJ2 u2 m2 l2 ⟨hi, rfl⟩
    by_cases hlt : i < A.length
    · refine G.lssT (i : Int) (A.length : Int) (by kernel_rfl) (by omega) ?_
      obtain ⟨b1, o1, a1, c1, rfl, e1, e2⟩ := (h.mono (l1.trans l2)).row (matT_at (List.getElem?_eq_getElem hlt))
      rw [List.length_map, hs.len hlt] at e1 e2
      refine G.addr b1 o1 A.length c i 1 (by kernel_rfl) hlt ?_
      refine G.loadU none b1 (o1 + i * 1) _ (by kernel_rfl) (by kernel_rfl) e1 ?_
      refine G.neqF (A.length : Int) (A.length : Int) (by kernel_rfl) (by omega) ?_
      refine G.add (i : Int) 1 ((i + 1 : Nat) : Int) (by kernel_rfl) (by omega) (by omega) (by omega) ?_
      exact G.back (by kernel_rfl) (hJ2 (i + 1) _ _ _ ⟨by kernel_rfl, by kernel_rfl, by kernel_rfl⟩ l2 ⟨by omega, rfl⟩ (by omega))
    obtain rfl : i = A.length := by omega
    clear hlt
    refine G.lssF (A.length : Int) (A.length : Int) (by kernel_rfl) (by omega) ?_
    clear hJ2
    refine G.loop (ι := Nat) (fun i => [(0, .v (.slice a A.length c)), (5, .v (.int .i64 (A.length : Int))), (46, .v (.int .i64 (A.length : Int))), (47, .v (.int .i64 (i : Int)))]) (fun _ => [])
      (fun i u' m' => i ≤ A.length ∧ m' = PH.mt) (fun i => A.length - i) 0 (by kernel_rfl) (fun _ => by kernel_rfl) ⟨by kernel_rfl, by kernel_rfl, by kernel_rfl⟩ ⟨by omega, rfl⟩ ?_
    rintro J3 i hJ3 u3 m3 l3 ⟨hi, rfl⟩
    by_cases hlt : i < A.length
    · refine G.lssT (i : Int) (A.length : Int) (by kernel_rfl) (by omega) ?_
      obtain ⟨b1, o1, a1, c1, rfl, e1, e2⟩ := (h.mono ((l1.trans l2).trans l3)).row (matT_at (List.getElem?_eq_getElem hlt))
      rw [List.length_map, hs.len hlt] at e1 e2
      refine G.addr b1 o1 A.length c i 1 (by kernel_rfl) hlt ?_
      refine G.loadU none b1 (o1 + i * 1) _ (by kernel_rfl) (by kernel_rfl) e1 ?_
      refine G.loop (ι := Nat) (fun k => [(0, .v (.slice (some ⟨b1, o1, none⟩) A.length c)), (5, .v (.int .i64 (A.length : Int))), (46, .v (.int .i64 (A.length : Int))), (47, .v (.int .i64 (i : Int))), (8, .v (.int .i64 (i : Int))), (54, .v (.int .i64 (A.length : Int))), (55, .v (.int .i64 (k : Int)))]) (fun _ => [])
        (fun k u' m' => k ≤ A.length ∧ m' = PH.mt) (fun k => A.length - k) 0 (by kernel_rfl) (fun _ => by kernel_rfl) ⟨by kernel_rfl, by kernel_rfl, by kernel_rfl⟩ ⟨by omega, rfl⟩ ?_
      rintro J4 k hJ4 u4 m4 l4 ⟨hk, rfl⟩
      by_cases hlk : k < A.length
      · refine G.lssT (k : Int) (A.length : Int) (by kernel_rfl) (by omega) ?_
        have hki : k < A[i].length := by rw [hs.len hlt]; exact hlk
        obtain ⟨b2, o2, rfl, e3⟩ := ListP.at' (ListP.mono e2 l4) (j := k) (e := .string (mkS (ratT A[i][k]))) (by simp [strsV, List.getElem?_eq_getElem hki])
        refine G.addr b1 o1 A.length c i 1 (by kernel_rfl) hlt ?_
        refine G.loadU none b1 (o1 + i * 1) _ (by kernel_rfl) (by kernel_rfl) (e1.mono l4) ?_
        refine G.addr b2 o2 A.length c1 k 1 (by kernel_rfl) hlk ?_
        refine G.loadU none b2 (o2 + k * 1) _ (by kernel_rfl) (by kernel_rfl) e3 ?_
        refine G.call0 _ _ (by kernel_rfl) Tryz.call26 (refValid0 (hs.tx' hlt hki)) ?_
        rintro v5 u5 l5 rfl
        refine G.add (k : Int) 1 ((k + 1 : Nat) : Int) (by kernel_rfl) (by omega) (by omega) (by omega) ?_
        exact G.back (by kernel_rfl) (hJ4 (k + 1) _ _ _ ⟨by kernel_rfl, by kernel_rfl, by kernel_rfl⟩ (l4.trans l5) ⟨by omega, rfl⟩ (by omega))
      · refine G.lssF (k : Int) (A.length : Int) (by kernel_rfl) (by omega) ?_
        refine G.add (i : Int) 1 ((i + 1 : Nat) : Int) (by kernel_rfl) (by omega) (by omega) (by omega) ?_
        exact G.back (by kernel_rfl) (hJ3 (i + 1) _ _ _ ⟨by kernel_rfl, by kernel_rfl, by kernel_rfl⟩ (l3.trans l4) ⟨by omega, rfl⟩ (by omega))
    · refine G.lssF (i : Int) (A.length : Int) (by kernel_rfl) (by omega) ?_
      exact G.ret (.tuple #[.int .i64 (A.length : Int), .int .i64 (A.length : Int), .int .i64 0]) (by kernel_rfl) ⟨rfl, rfl⟩
  · refine G.gtrF (A.length : Int) 0 (by kernel_rfl) (by omega) ?_
    have hz : (A.length : Int) = 0 := by omega
    refine G.gtrF (A.length : Int) 12 (by kernel_rfl) (by omega) ?_
    refine G.loop (ι := Nat) (fun i => [(0, .v (.slice a A.length c)), (5, .v (.int .i64 0)), (21, .v (.int .i64 (A.length : Int))), (22, .v (.int .i64 (i : Int)))]) (fun _ => [])
      (fun i u' m' => i ≤ A.length ∧ m' = PH.mt) (fun i => A.length - i) 0 (by kernel_rfl) (fun _ => by kernel_rfl) ⟨by kernel_rfl, by kernel_rfl, by kernel_rfl⟩ ⟨by omega, rfl⟩ ?_
    rintro J1 i hJ1 u1 m1 l1 ⟨hi, rfl⟩
    by_cases hlt : i < A.length
    · refine G.lssT (i : Int) (A.length : Int) (by kernel_rfl) (by omega) ?_
      obtain ⟨b1, o1, a1, c1, rfl, e1, e2⟩ := (h.mono l1).row (matT_at (List.getElem?_eq_getElem hlt))
      rw [List.length_map, hs.len hlt] at e1 e2
      refine G.addr b1 o1 A.length c i 1 (by kernel_rfl) hlt ?_
      refine G.loadU none b1 (o1 + i * 1) _ (by kernel_rfl) (by kernel_rfl) e1 ?_
      refine G.gtrF (A.length : Int) 12 (by kernel_rfl) (by omega) ?_
      refine G.add (i : Int) 1 ((i + 1 : Nat) : Int) (by kernel_rfl) (by omega) (by omega) (by omega) ?_
      exact G.back (by kernel_rfl) (hJ1 (i + 1) _ _ _ ⟨by kernel_rfl, by kernel_rfl, by kernel_rfl⟩ l1 ⟨by omega, rfl⟩ (by omega))
    obtain rfl : i = A.length := by omega
    clear hlt
    refine G.lssF (A.length : Int) (A.length : Int) (by kernel_rfl) (by omega) ?_
    clear hJ1
    refine G.loop (ι := Nat) (fun i => [(0, .v (.slice a A.length c)), (5, .v (.int .i64 0)), (33, .v (.int .i64 (A.length : Int))), (34, .v (.int .i64 (i : Int)))]) (fun _ => [])
      (fun i u' m' => i ≤ A.length ∧ m' = PH.mt) (fun i => A.length - i) 0 (by kernel_rfl) (fun _ => by kernel_rfl) ⟨by kernel_rfl, by kernel_rfl, by kernel_rfl⟩ ⟨by omega, rfl⟩ ?_
    rintro J2 i hJ2 u2 m2 l2 ⟨hi, rfl⟩
    by_cases hlt : i < A.length
    · refine G.lssT (i : Int) (A.length : Int) (by kernel_rfl) (by omega) ?_
      obtain ⟨b1, o1, a1, c1, rfl, e1, e2⟩ := (h.mono (l1.trans l2)).row (matT_at (List.getElem?_eq_getElem hlt))
      rw [List.length_map, hs.len hlt] at e1 e2
      refine G.addr b1 o1 A.length c i 1 (by kernel_rfl) hlt ?_
      refine G.loadU none b1 (o1 + i * 1) _ (by kernel_rfl) (by kernel_rfl) e1 ?_
      refine G.neqF (A.length : Int) 0 (by kernel_rfl) (by omega) ?_
      refine G.add (i : Int) 1 ((i + 1 : Nat) : Int) (by kernel_rfl) (by omega) (by omega) (by omega) ?_
      exact G.back (by kernel_rfl) (hJ2 (i + 1) _ _ _ ⟨by kernel_rfl, by kernel_rfl, by kernel_rfl⟩ l2 ⟨by omega, rfl⟩ (by omega))
    obtain rfl : i = A.length := by omega
    clear hlt
    refine G.lssF (A.length : Int) (A.length : Int) (by kernel_rfl) (by omega) ?_
    clear hJ2
    refine G.loop (ι := Nat) (fun i => [(0, .v (.slice a A.length c)), (5, .v (.int .i64 0)), (46, .v (.int .i64 (A.length : Int))), (47, .v (.int .i64 (i : Int)))]) (fun _ => [])
      (fun i u' m' => i ≤ A.length ∧ m' = PH.mt) (fun i => A.length - i) 0 (by kernel_rfl) (fun _ => by kernel_rfl) ⟨by kernel_rfl, by kernel_rfl, by kernel_rfl⟩ ⟨by omega, rfl⟩ ?_
    rintro J3 i hJ3 u3 m3 l3 ⟨hi, rfl⟩
    by_cases hlt : i < A.length
    · refine G.lssT (i : Int) (A.length : Int) (by kernel_rfl) (by omega) ?_
      obtain ⟨b1, o1, a1, c1, rfl, e1, e2⟩ := (h.mono ((l1.trans l2).trans l3)).row (matT_at (List.getElem?_eq_getElem hlt))
      rw [List.length_map, hs.len hlt] at e1 e2
      refine G.addr b1 o1 A.length c i 1 (by kernel_rfl) hlt ?_
      refine G.loadU none b1 (o1 + i * 1) _ (by kernel_rfl) (by kernel_rfl) e1 ?_
      refine G.loop (ι := Nat) (fun k => [(0, .v (.slice (some ⟨b1, o1, none⟩) A.length c)), (5, .v (.int .i64 0)), (46, .v (.int .i64 (A.length : Int))), (47, .v (.int .i64 (i : Int))), (8, .v (.int .i64 (i : Int))), (54, .v (.int .i64 (A.length : Int))), (55, .v (.int .i64 (k : Int)))]) (fun _ => [])
        (fun k u' m' => k ≤ A.length ∧ m' = PH.mt) (fun k => A.length - k) 0 (by kernel_rfl) (fun _ => by kernel_rfl) ⟨by kernel_rfl, by kernel_rfl, by kernel_rfl⟩ ⟨by omega, rfl⟩ ?_
      rintro J4 k hJ4 u4 m4 l4 ⟨hk, rfl⟩
      by_cases hlk : k < A.length
      · refine G.lssT (k : Int) (A.length : Int) (by kernel_rfl) (by omega) ?_
        have hki : k < A[i].length := by rw [hs.len hlt]; exact hlk
        obtain ⟨b2, o2, rfl, e3⟩ := ListP.at' (ListP.mono e2 l4) (j := k) (e := .string (mkS (ratT A[i][k]))) (by simp [strsV, List.getElem?_eq_getElem hki])
        refine G.addr b1 o1 A.length c i 1 (by kernel_rfl) hlt ?_
        refine G.loadU none b1 (o1 + i * 1) _ (by kernel_rfl) (by kernel_rfl) (e1.mono l4) ?_
        refine G.addr b2 o2 A.length c1 k 1 (by kernel_rfl) hlk ?_
        refine G.loadU none b2 (o2 + k * 1) _ (by kernel_rfl) (by kernel_rfl) e3 ?_
        refine G.call0 _ _ (by kernel_rfl) Tryz.call26 (refValid0 (hs.tx' hlt hki)) ?_
        rintro v5 u5 l5 rfl
        refine G.add (k : Int) 1 ((k + 1 : Nat) : Int) (by kernel_rfl) (by omega) (by omega) (by omega) ?_
        exact G.back (by kernel_rfl) (hJ4 (k + 1) _ _ _ ⟨by kernel_rfl, by kernel_rfl, by kernel_rfl⟩ (l4.trans l5) ⟨by omega, rfl⟩ (by omega))
      · refine G.lssF (k : Int) (A.length : Int) (by kernel_rfl) (by omega) ?_
        refine G.add (i : Int) 1 ((i + 1 : Nat) : Int) (by kernel_rfl) (by omega) (by omega) (by omega) ?_
        exact G.back (by kernel_rfl) (hJ3 (i + 1) _ _ _ ⟨by kernel_rfl, by kernel_rfl, by kernel_rfl⟩ (l3.trans l4) ⟨by omega, rfl⟩ (by omega))
    · refine G.lssF (i : Int) (A.length : Int) (by kernel_rfl) (by omega) ?_
      exact G.ret (.tuple #[.int .i64 (A.length : Int), .int .i64 0, .int .i64 0]) (by kernel_rfl) ⟨rfl, by rw [hz]⟩
end Go.Proofs.YtldokelpolbnnaaGreatDoor
end
section
set_option linter.unusedSectionVars false
set_option linter.unusedVariables false
namespace Go.Proofs.YtldokelpolbnnaaGreatDoor
open Go.RowKit
end Go.Proofs.YtldokelpolbnnaaGreatDoor
end
section
set_option linter.unusedSectionVars false
set_option linter.unusedVariables false
namespace Go.Proofs.YtldokelpolbnnaaGreatDoor
open Go.RowKit
structure Q4 where
  b : Bool
  a : Option Addr
  n : Nat
  c : Nat
  a' : Option Addr
  n' : Nat
  c' : Nat
def qv (f : Q4) : Value := .agg #[.bool f.b, .slice f.a f.n f.c, .bool false, .slice f.a' f.n' f.c']
def qc (f : Q4) : List SV := [.v (.bool f.b), .v (.slice f.a f.n f.c), .v (.bool false), .v (.slice f.a' f.n' f.c')]
theorem QP.opQ {u : PH} {v : Value} {q : Rat} (h : QP u v q) : ∃ f, v = qv f := by
  obtain ⟨b, a, n, c, a', n', c', rfl, _⟩ := h.opn
  exact ⟨⟨b, a, n, c, a', n', c'⟩, rfl⟩
end Go.Proofs.YtldokelpolbnnaaGreatDoor
end
section
set_option linter.unusedSectionVars false
set_option linter.unusedVariables false
namespace Go.Proofs.YtldokelpolbnnaaGreatDoor
open Go.RowKit
end Go.Proofs.YtldokelpolbnnaaGreatDoor
end
section
set_option linter.unusedSectionVars false
set_option linter.unusedVariables false
namespace Go.Proofs.YtldokelpolbnnaaGreatDoor
section rules
variable {P : Program} [Mixed P] {fn : Func} {Post : Spec} {st : List KI × S} {u m : PH}
end rules
end Go.Proofs.YtldokelpolbnnaaGreatDoor
end
section
set_option linter.unusedSectionVars false
set_option linter.unusedVariables false
namespace Go.Proofs.YtldokelpolbnnaaGreatDoor
open Go.RowKit
end Go.Proofs.YtldokelpolbnnaaGreatDoor
end
section
set_option linter.unusedSectionVars false
set_option linter.unusedVariables false
namespace Go.Proofs.YtldokelpolbnnaaGreatDoor
open Go.RowKit
end Go.Proofs.YtldokelpolbnnaaGreatDoor
end
section
set_option linter.unusedVariables false
set_option linter.unusedSimpArgs false
namespace Go.Proofs.YtldokelpolbnnaaGreatDoor
def In (N : Nat) (q : Rat) : Prop := ∃ z : Int, q = (z : Rat) ∧ z.natAbs ≤ N
theorem In.add {N M : Nat} {q r : Rat} (h : In N q) (h' : In M r) : In (N + M) (q + r) := by
  obtain ⟨z, rfl, hz⟩ := h
  obtain ⟨y, rfl, hy⟩ := h'
  exact ⟨z + y, by rw [Rat.intCast_add], by omega⟩
theorem In.neg {N : Nat} {q : Rat} (h : In N q) : In N (-q) := by
  obtain ⟨z, rfl, hz⟩ := h
  exact ⟨-z, by rw [Rat.intCast_neg], by omega⟩
theorem In.sub {N M : Nat} {q r : Rat} (h : In N q) (h' : In M r) : In (N + M) (q - r) := by
  rw [Rat.sub_eq_add_neg]; exact h.add h'.neg
theorem In.mul {N M : Nat} {q r : Rat} (h : In N q) (h' : In M r) : In (N * M) (q * r) := by
  obtain ⟨z, rfl, hz⟩ := h
  obtain ⟨y, rfl, hy⟩ := h'
  exact ⟨z * y, by rw [Rat.intCast_mul], by rw [Int.natAbs_mul]; exact Nat.mul_le_mul hz hy⟩
theorem In.zero : In 0 0 := ⟨0, by decide, by decide⟩
theorem In.one : In 1 1 := ⟨1, by decide, by decide⟩
theorem In.tx {N : Nat} {q : Rat} (h : In N q) (hN : N < 1000000000) : Tx q := by
  obtain ⟨z, rfl, hz⟩ := h
  refine ⟨?_, ?_⟩
  · have e : ((z : Int) : Rat).num = z := by simp
    rw [e]
    exact Nat.le_trans (dig_of_lt (k := 9) (by omega) (by omega)) (by omega)
  · have e : ((z : Int) : Rat).den = 1 := by simp
    rw [e]
    exact Nat.le_trans (dig_of_lt (k := 9) (by omega) (by omega)) (by omega)
theorem In.up {N : Nat} {q : Rat} (h : In N q) (hN : N < 1000000000) : In 999999999 q := by
  obtain ⟨z, e, hz⟩ := h; exact ⟨z, e, by omega⟩
theorem SmI.in {q : Rat} (h : SmI q) : In 3 q := by
  refine ⟨q.num, ?_, h.num⟩
  apply Rat.ext
  · simp
  · simp [h.den]
theorem len4 {α : Type} {l : List α} (h : l.length = 4) : ∃ a b c d, l = [a, b, c, d] := by
  match l, h with
  | [a, b, c, d], _ => exact ⟨a, b, c, d, rfl⟩
theorem sq4 {B : List (List Rat)} (h : SqN 4 B) : ∃ a b c d e f g h i j k l m n o p, B = [[a, b, c, d], [e, f, g, h], [i, j, k, l], [m, n, o, p]] := by
  obtain ⟨h1, h2⟩ := h
  obtain ⟨r, s, t, u, rfl⟩ := len4 h1
  obtain ⟨a, b, c, d, rfl⟩ := len4 (h2 r (by simp))
  obtain ⟨e, f, g, h, rfl⟩ := len4 (h2 s (by simp))
  obtain ⟨i, j, k, l, rfl⟩ := len4 (h2 t (by simp))
  obtain ⟨m, n, o, p, rfl⟩ := len4 (h2 u (by simp))
  exact ⟨a, b, c, d, e, f, g, h, i, j, k, l, m, n, o, p, rfl⟩
structure ProdOK (A : List (List Rat)) (n : Nat) : Prop where
  top : gR (charL A) n = 1
  tr : gR (charL A) (n - 1) = 0 - trL A
  det : gR (charL A) 0 = if n % 2 = 1 then 0 - dtm n (en A) else dtm n (en A)
  inn : ∀ q ∈ charL A, In 999999999 q
  txt : Tx (trL A)
  txd : Tx (dtm n (en A))
theorem ProdOK.tx {A : List (List Rat)} {n : Nat} (h : ProdOK A n) : ∀ q ∈ charL A, Tx q := fun q hq => (h.inn q hq).tx (by omega)
theorem In.sz {N : Nat} {q : Rat} (h : In N q) (hN : N < 1000000000) : Sz q 1 := by
  obtain ⟨z, rfl, hz⟩ := h
  exact sz_one (by omega)
theorem ProdOK.sz {A : List (List Rat)} {n : Nat} (h : ProdOK A n) : SzL (charL A) 1 := fun q hq => (h.inn q hq).sz (by omega)
theorem prod1 (a : Rat) (ha : In 3 a) : ProdOK [[a]] 1 := by
  have e1 : trL [[a]] = 0 + a := by simp [trL, trGo, gR, gM]
  have e2 : dtm 1 (en [[a]]) = a := by simp [dtm, en, gR, gM]
  refine ⟨by rw [char1]; rfl, by rw [char1, e1]; simp [gR]; grind, by rw [char1, e2]; simp [gR]; grind, ?_, by rw [e1]; exact (In.zero.add ha).tx (by omega), by rw [e2]; exact ha.tx (by omega)⟩
  rw [char1]
  intro q hq
  simp at hq
  rcases hq with rfl | rfl
  · exact ha.neg.up (by omega)
  · exact In.one.up (by omega)
theorem prod2 (a b c d : Rat) (ha : In 3 a) (hb : In 3 b) (hc : In 3 c) (hd : In 3 d) : ProdOK [[a, b], [c, d]] 2 := by
  have e1 : trL [[a, b], [c, d]] = 0 + a + d := by simp [trL, trGo, gR, gM]
  have e2 : dtm 2 (en [[a, b], [c, d]]) = a * d - b * c := by simp [dtm, en, gR, gM]
  have i2 : In _ (a * d - b * c) := (ha.mul hd).sub (hb.mul hc)
  refine ⟨by rw [char2]; rfl, by rw [char2, e1]; simp [gR]; grind, by rw [char2, e2]; simp [gR], ?_, by rw [e1]; exact ((In.zero.add ha).add hd).tx (by omega), by rw [e2]; exact i2.tx (by omega)⟩
  rw [char2]
  intro q hq
  simp at hq
  rcases hq with rfl | rfl | rfl
  · exact i2.up (by omega)
  · exact (ha.neg.sub hd).up (by omega)
  · exact In.one.up (by omega)
theorem prod3 (a b c d e f g h i : Rat) (ha : In 3 a) (hb : In 3 b) (hc : In 3 c) (hd : In 3 d) (he : In 3 e) (hf : In 3 f) (hg : In 3 g) (hh : In 3 h) (hi : In 3 i) : ProdOK [[a, b, c], [d, e, f], [g, h, i]] 3 := by
  have e1 : trL [[a, b, c], [d, e, f], [g, h, i]] = 0 + a + e + i := by simp [trL, trGo, gR, gM]
  have e2 : dtm 3 (en [[a, b, c], [d, e, f], [g, h, i]]) = a * (e * i - f * h) - b * (d * i - f * g) + c * (d * h - e * g) := by simp [dtm, en, gR, gM]
  have i3 : In _ (a * (e * i - f * h) - b * (d * i - f * g) + c * (d * h - e * g)) := ((ha.mul ((he.mul hi).sub (hf.mul hh))).sub (hb.mul ((hd.mul hi).sub (hf.mul hg)))).add (hc.mul ((hd.mul hh).sub (he.mul hg)))
  refine ⟨by rw [char3]; rfl, by rw [char3, e1]; simp [gR]; grind, by rw [char3, e2]; simp [gR]; grind, ?_, by rw [e1]; exact (((In.zero.add ha).add he).add hi).tx (by omega), by rw [e2]; exact i3.tx (by omega)⟩
  rw [char3]
  intro q hq
  simp at hq
  rcases hq with rfl | rfl | rfl | rfl
  · exact i3.neg.up (by omega)
  · exact ((((((ha.mul he).sub (hb.mul hd)).add (ha.mul hi)).sub (hc.mul hg)).add (he.mul hi)).sub (hf.mul hh)).up (by omega)
  · exact ((ha.neg.sub he).sub hi).up (by omega)
  · exact In.one.up (by omega)
theorem in3 {a b c d e f g h i : Rat} (ha : In 3 a) (hb : In 3 b) (hc : In 3 c) (hd : In 3 d) (he : In 3 e) (hf : In 3 f) (hg : In 3 g) (hh : In 3 h) (hi : In 3 i) : In 162 (a * (e * i - f * h) - b * (d * i - f * g) + c * (d * h - e * g)) :=
  ((ha.mul ((he.mul hi).sub (hf.mul hh))).sub (hb.mul ((hd.mul hi).sub (hf.mul hg)))).add (hc.mul ((hd.mul hh).sub (he.mul hg)))
theorem prod4 (a b c d e f g h i j : Rat) (ha : In 3 a) (hb : In 3 b) (hc : In 3 c) (hd : In 3 d) (he : In 3 e) (hf : In 3 f) (hg : In 3 g) (hh : In 3 h) (hi : In 3 i) (hj : In 3 j) : ProdOK [[a, b, c, d], [b, e, f, g], [c, f, h, i], [d, g, i, j]] 4 := by
  have e1 : trL [[a, b, c, d], [b, e, f, g], [c, f, h, i], [d, g, i, j]] = 0 + a + e + h + j := by simp [trL, trGo, gR, gM]
  have hch := (char4_1 a b c d e f g h i j).trans ((char4_2 a b c d e f g h i j).trans ((char4_3 a b c d e f g h i j).trans (char4_4 a b c d e f g h i j)))
  have e0 : (fun x y => gR (gM [[a, b, c, d], [b, e, f, g], [c, f, h, i], [d, g, i, j]] x) y) = en [[a, b, c, d], [b, e, f, g], [c, f, h, i], [d, g, i, j]] := rfl
  rw [e0] at hch
  have i4 : In 1944 (dtm 4 (en [[a, b, c, d], [b, e, f, g], [c, f, h, i], [d, g, i, j]])) := by
    have e2 : dtm 4 (en [[a, b, c, d], [b, e, f, g], [c, f, h, i], [d, g, i, j]]) = a * (e * (h * j - i * i) - f * (f * j - i * g) + g * (f * i - h * g)) - b * (b * (h * j - i * i) - f * (c * j - i * d) + g * (c * i - h * d)) + c * (b * (f * j - i * g) - e * (c * j - i * d) + g * (c * g - f * d)) - d * (b * (f * i - h * g) - e * (c * i - h * d) + f * (c * g - f * d)) := by simp [dtm, en, gR, gM]
    rw [e2]
    exact (((ha.mul (in3 he hf hg hf hh hi hg hi hj)).sub (hb.mul (in3 hb hf hg hc hh hi hd hi hj))).add (hc.mul (in3 hb he hg hc hf hi hd hg hj))).sub (hd.mul (in3 hb he hf hc hf hh hd hg hi))
  refine ⟨by rw [hch]; rfl, by rw [hch, e1]; simp [gR]; grind, by rw [hch]; simp [gR], ?_, by rw [e1]; exact ((((In.zero.add ha).add he).add hh).add hj).tx (by omega), i4.tx (by omega)⟩
  rw [hch]
  intro q hq
  simp only [List.mem_cons, List.not_mem_nil, or_false] at hq
  rcases hq with rfl | rfl | rfl | rfl | rfl
  · exact i4.up (by omega)
  · exact ((((in3 he hf hg hf hh hi hg hi hj).neg.sub (in3 ha hc hd hc hh hi hd hi hj)).sub (in3 ha hb hd hb he hg hd hg hj)).sub (in3 ha hb hc hb he hf hc hf hh)).up (by omega)
  · exact ((((((((((((ha.mul he).sub (hb.mul hb)).add (ha.mul hh)).sub (hc.mul hc)).add (ha.mul hj)).sub (hd.mul hd)).add (he.mul hh)).sub (hf.mul hf)).add (he.mul hj)).sub (hg.mul hg)).add (hh.mul hj)).sub (hi.mul hi)).up (by omega)
  · exact (((ha.neg.sub he).sub hh).sub hj).up (by omega)
  · exact In.one.up (by omega)
theorem prod_all {A : List (List Rat)} {n : Nat} (hl : A.length = n) (h0 : 1 ≤ n) (h4 : n ≤ 4) (hT : ThinOK A n) (hs : ∀ i j, j < i → i < n → gR (gM A i) j = gR (gM A j) i) : ProdOK A n := by
  have hq := thin_sq hl hT
  have hin : ∀ i, i < A.length → ∀ q ∈ gM A i, In 3 q := fun i hi q hq => ((hT i hi).2 q hq).in
  match n, h0, h4 with
  | 1, _, _ =>
    obtain ⟨a, rfl⟩ := sq1 hq
    exact prod1 a (hin 0 (by simp) a (by simp [gM]))
  | 2, _, _ =>
    obtain ⟨a, b, c, d, rfl⟩ := sq2 hq
    exact prod2 a b c d (hin 0 (by simp) a (by simp [gM])) (hin 0 (by simp) b (by simp [gM])) (hin 1 (by simp) c (by simp [gM])) (hin 1 (by simp) d (by simp [gM]))
  | 3, _, _ =>
    obtain ⟨a, b, c, d, e, f, g, h, i, rfl⟩ := sq3 hq
    exact prod3 a b c d e f g h i (hin 0 (by simp) a (by simp [gM])) (hin 0 (by simp) b (by simp [gM])) (hin 0 (by simp) c (by simp [gM])) (hin 1 (by simp) d (by simp [gM])) (hin 1 (by simp) e (by simp [gM])) (hin 1 (by simp) f (by simp [gM])) (hin 2 (by simp) g (by simp [gM])) (hin 2 (by simp) h (by simp [gM])) (hin 2 (by simp) i (by simp [gM]))
  | 4, _, _ =>
    obtain ⟨a, b, c, d, b', e, f, g, c', f', h, i, d', g', i', j, rfl⟩ := sq4 hq
    obtain rfl : b' = b := hs 1 0 (by omega) (by omega)
    obtain rfl : c' = c := hs 2 0 (by omega) (by omega)
    obtain rfl : d' = d := hs 3 0 (by omega) (by omega)
    obtain rfl : f' = f := hs 2 1 (by omega) (by omega)
    obtain rfl : g' = g := hs 3 1 (by omega) (by omega)
    obtain rfl : i' = i := hs 3 2 (by omega) (by omega)
    exact prod4 _ _ _ _ _ _ _ _ _ _ (hin 0 (by simp) _ (by simp [gM])) (hin 0 (by simp) _ (by simp [gM])) (hin 0 (by simp) _ (by simp [gM])) (hin 0 (by simp) _ (by simp [gM])) (hin 1 (by simp) e (by simp [gM])) (hin 1 (by simp) _ (by simp [gM])) (hin 1 (by simp) _ (by simp [gM])) (hin 2 (by simp) h (by simp [gM])) (hin 2 (by simp) _ (by simp [gM])) (hin 3 (by simp) j (by simp [gM]))
end Go.Proofs.YtldokelpolbnnaaGreatDoor
end
section
set_option linter.unusedVariables false
set_option linter.unusedSimpArgs false
namespace Go.Proofs.YtldokelpolbnnaaGreatDoor
theorem sg_one (q : Rat) (h : q ≠ 0) : sg q = 1 ∨ sg q = -1 := by
  rcases sg_cases q with ⟨h1, h2⟩ | ⟨h1, h2⟩ | ⟨h1, h2⟩
  · exact .inr h2
  · exact absurd h1 h
  · exact .inl h2
theorem sg_step {h a b : Rat} (hh : 0 < h) : sg (a + h * b) = sg a ∨ sg (a + h * b) = sg b ∨ (sg (a + h * b) = 0 ∧ sg a = -(sg b)) := by
  have hm : ∀ {x y : Rat}, 0 < x → 0 < y → 0 < x * y := fun hx hy => Rat.mul_pos hx hy
  rcases sg_cases b with ⟨b1, b2⟩ | ⟨b1, b2⟩ | ⟨b1, b2⟩
  · have h1 : h * b < 0 := mul_neg_of hh b1
    rcases sg_cases a with ⟨a1, a2⟩ | ⟨a1, a2⟩ | ⟨a1, a2⟩
    · left; rw [a2]; exact sg_neg (by grind)
    · right; left; rw [b2]; exact sg_neg (by grind)
    · rcases sg_cases (a + h * b) with ⟨c1, c2⟩ | ⟨c1, c2⟩ | ⟨c1, c2⟩
      · right; left; rw [c2, b2]
      · right; right; exact ⟨c2, by rw [a2, b2]; rfl⟩
      · left; rw [c2, a2]
  · left; rw [b1]; congr 1; grind
  · have h1 : 0 < h * b := hm hh b1
    rcases sg_cases a with ⟨a1, a2⟩ | ⟨a1, a2⟩ | ⟨a1, a2⟩
    · rcases sg_cases (a + h * b) with ⟨c1, c2⟩ | ⟨c1, c2⟩ | ⟨c1, c2⟩
      · left; rw [c2, a2]
      · right; right; exact ⟨c2, by rw [a2, b2]⟩
      · right; left; rw [c2, b2]
    · right; left; rw [b2]; exact sg_pos (by grind)
    · left; rw [a2]; exact sg_pos (by grind)
theorem chg_cons (s : Int) (q : Rat) (l : List Rat) : chg s (q :: l) = if sg q = -s then chg (-s) l + 1 else chg s l := rfl
theorem chg_step {h a b : Rat} (hh : 0 < h) (l : List Rat) {s : Int} (hs : s = 1 ∨ s = -1) : chg s ((a + h * b) :: b :: l) ≤ chg s (a :: b :: l) := by
  rcases sg_step (a := a) (b := b) hh with e | e | ⟨e, e'⟩
  · rw [chg_cons, chg_cons, e]; exact Nat.le_refl _
  · have key : chg s ((a + h * b) :: b :: l) = chg s (b :: l) := by
      rw [chg_cons, chg_cons s b, e]
      by_cases hb : sg b = -s
      · rw [if_pos hb, if_pos hb, chg_cons, if_neg (by rw [hb]; rcases hs with rfl | rfl <;> decide)]
      · rw [if_neg hb, if_neg hb]
    rw [key, chg_cons s a]
    split
    · have := chg_flip s hs (b :: l); omega
    · exact Nat.le_refl _
  · have key : chg s ((a + h * b) :: b :: l) = chg s (b :: l) := by
      rw [chg_cons, e, if_neg (by rcases hs with rfl | rfl <;> decide)]
    rw [key, chg_cons s a]
    split
    · have := chg_flip s hs (b :: l); omega
    · exact Nat.le_refl _
theorem chg_pre {X Y : List Rat} (h : ∀ s : Int, s = 1 ∨ s = -1 → chg s X ≤ chg s Y) : ∀ (pre : List Rat) (s : Int), s = 1 ∨ s = -1 → chg s (pre ++ X) ≤ chg s (pre ++ Y)
  | [], s, hs => h s hs
  | q :: pre, s, hs => by
    rw [List.cons_append, List.cons_append, chg_cons, chg_cons]
    split
    · have := chg_pre h pre (-s) (by rcases hs with rfl | rfl <;> simp)
      omega
    · exact chg_pre h pre s hs
theorem var_cons (q : Rat) (l : List Rat) : var (q :: l) = if q = 0 then var l else chg (sg q) l := by
  by_cases h : q = 0
  · rw [if_pos h, h, var_zero]
  · rw [if_neg h, var_nz _ h]
theorem var_step {h a b : Rat} (hh : 0 < h) (l : List Rat) : var ((a + h * b) :: b :: l) ≤ var (a :: b :: l) := by
  have hsb : b ≠ 0 → chg (sg b) (b :: l) = chg (sg b) l := fun hb => by
    rw [chg_cons, if_neg]
    rcases sg_one b hb with e | e <;> rw [e] <;> decide
  by_cases ha : a = 0
  · subst ha
    rw [var_zero]
    by_cases hb : b = 0
    · subst hb
      rw [show (0 : Rat) + h * 0 = 0 by grind, var_zero]; exact Nat.le_refl _
    · have hne : (0 : Rat) + h * b ≠ 0 := by
        have := mul_nz (show h ≠ 0 by grind) hb
        grind
      have e : sg (0 + h * b) = sg b := by rw [show (0 : Rat) + h * b = h * b by grind]; exact sg_mulpos hh
      rw [var_nz _ hne, e, hsb hb, var_nz _ hb]; exact Nat.le_refl _
  · have hsa := sg_one a ha
    have hva : var (a :: b :: l) = chg (sg a) (b :: l) := var_nz _ ha
    by_cases hc : a + h * b = 0
    · rw [hc, var_zero, hva]
      have hb : b ≠ 0 := fun e => by rw [e] at hc; exact ha (by grind)
      rw [var_nz _ hb, chg_cons]
      have : sg b = -(sg a) := by
        rcases sg_cases a with ⟨a1, a2⟩ | ⟨a1, a2⟩ | ⟨a1, a2⟩
        · rw [a2]
          rcases sg_cases b with ⟨b1, b2⟩ | ⟨b1, b2⟩ | ⟨b1, b2⟩
          · have := mul_neg_of hh b1; grind
          · exact absurd b1 hb
          · rw [b2]; rfl
        · exact absurd a1 ha
        · rw [a2]
          rcases sg_cases b with ⟨b1, b2⟩ | ⟨b1, b2⟩ | ⟨b1, b2⟩
          · rw [b2]
          · exact absurd b1 hb
          · have := Rat.mul_pos hh b1; grind
      rw [if_pos this, ← this]; omega
    · rw [var_nz _ hc]
      rcases sg_step (a := a) (b := b) hh with e | e | ⟨e, _⟩
      · rw [e, hva]; exact Nat.le_refl _
      · have hb : b ≠ 0 := fun hb0 => by
          rcases sg_one _ hc with x | x <;> rw [x] at e <;> rw [hb0, sg_zero] at e <;> simp at e
        rw [e, hsb hb, hva]
        by_cases e2 : sg a = sg b
        · rw [e2, hsb hb]; exact Nat.le_refl _
        · have e3 : sg b = -(sg a) := by
            rcases sg_one b hb with x | x <;> rcases hsa with y | y <;> rw [x, y] at e2 ⊢ <;> simp_all
          rw [chg_cons, if_pos e3, ← e3]; omega
      · rcases sg_one _ hc with x | x <;> rw [x] at e <;> simp at e
theorem var_pre {X Y : List Rat} (h : ∀ s : Int, s = 1 ∨ s = -1 → chg s X ≤ chg s Y) (hv : var X ≤ var Y) : ∀ pre : List Rat, var (pre ++ X) ≤ var (pre ++ Y)
  | [] => hv
  | q :: pre => by
    rw [List.cons_append, List.cons_append, var_cons, var_cons]
    split
    · exact var_pre h hv pre
    · rename_i hq
      exact chg_pre h pre _ (sg_one q hq)
theorem var_at {h : Rat} (hh : 0 < h) (l : List Rat) (k : Nat) (hk : k + 1 < l.length) : var (l.set k (gR l k + h * gR l (k + 1))) ≤ var l := by
  have e : l = l.take k ++ (gR l k :: gR l (k + 1) :: l.drop (k + 2)) := by
    have h1 : l.drop k = l[k] :: l[k + 1] :: l.drop (k + 2) := by
      rw [List.drop_eq_getElem_cons (by omega), List.drop_eq_getElem_cons (by omega)]
    have g1 : gR l k = l[k] := by simp [gR, show k < l.length by omega]
    have g2 : gR l (k + 1) = l[k + 1] := by simp [gR, hk]
    rw [g1, g2, ← h1, List.take_append_drop]
  have e2 : l.set k (gR l k + h * gR l (k + 1)) = l.take k ++ ((gR l k + h * gR l (k + 1)) :: gR l (k + 1) :: l.drop (k + 2)) := by
    generalize gR l k + h * gR l (k + 1) = z
    conv => lhs; rw [e]
    have hl : (l.take k).length = k := by rw [List.length_take]; omega
    rw [List.set_append_right _ _ (by omega), hl, Nat.sub_self, List.set_cons_zero]
  rw [e2]
  conv => rhs; rw [e]
  exact var_pre (fun s hs => chg_step hh _ hs) (var_step hh _) _
theorem horGo_len (x : Rat) (i : Nat) : ∀ k l, (horGo x i k l).length = l.length
  | 0, l => rfl
  | k + 1, l => by
    unfold horGo
    split
    · rfl
    · rw [horGo_len x i k]; simp
theorem shiftGo_len (x : Rat) : ∀ f i l, (shiftGo x f i l).length = l.length
  | 0, i, l => rfl
  | f + 1, i, l => by unfold shiftGo; rw [shiftGo_len x f, horGo_len]
theorem var_hor {h : Rat} (hh : 0 < h) (i : Nat) : ∀ k l, k + 1 ≤ l.length → var (horGo h i k l) ≤ var l
  | 0, l, _ => Nat.le_refl _
  | k + 1, l, hk => by
    unfold horGo
    split
    · exact Nat.le_refl _
    · refine Nat.le_trans (var_hor hh i k _ (by simp; omega)) (var_at hh l k (by omega))
theorem var_shiftGo {h : Rat} (hh : 0 < h) : ∀ f i l, l ≠ [] → var (shiftGo h f i l) ≤ var l
  | 0, i, l, _ => Nat.le_refl _
  | f + 1, i, l, hl => by
    unfold shiftGo
    have h1 : 0 < l.length := List.length_pos_iff.2 hl
    have h2 : horGo h i (l.length - 1) l ≠ [] := fun e => by have := horGo_len h i (l.length - 1) l; rw [e] at this; simp at this; omega
    exact Nat.le_trans (var_shiftGo hh f (i + 1) _ h2) (var_hor hh i _ l (by omega))
theorem var_shift {h : Rat} (hh : 0 < h) (p : List Rat) : var (shiftL h p) ≤ var p := by
  by_cases e : p = []
  · subst e; exact Nat.le_refl _
  · exact var_shiftGo hh _ _ p e
theorem shift4 (x a b c d e : Rat) : shiftL x [a, b, c, d, e] = [a + x * b + x * x * c + x * x * x * d + x * x * x * x * e, b + 2 * x * c + 3 * x * x * d + 4 * x * x * x * e, c + 3 * x * d + 6 * x * x * e, d + 4 * x * e, e] := by
  simp [shiftL, shiftGo, horGo, gR]
  grind
theorem shift0 (x a : Rat) : shiftL x [a] = [a] := by simp [shiftL, shiftGo, horGo, gR]
theorem shift_add (x h : Rat) (p : List Rat) (hp : p.length ≤ 5) : shiftL h (shiftL x p) = shiftL (x + h) p := by
  match p, hp with
  | [], _ => rfl
  | [a], _ => rw [shift0, shift0, shift0]
  | [a, b], _ => rw [shift1, shift1, shift1]; simp only [List.cons.injEq, and_true]; grind
  | [a, b, c], _ => rw [shift2, shift2, shift2]; simp only [List.cons.injEq, and_true]; grind
  | [a, b, c, d], _ => rw [shift3, shift3, shift3]; simp only [List.cons.injEq, and_true]; grind
  | [a, b, c, d, e], _ => rw [shift4, shift4, shift4]; simp only [List.cons.injEq, and_true]; grind
theorem var_mono {x y : Rat} (h : x ≤ y) (p : List Rat) (hp : p.length ≤ 5) : var (shiftL y p) ≤ var (shiftL x p) := by
  by_cases e : x = y
  · rw [e]; exact Nat.le_refl _
  · have : y = x + (y - x) := by grind
    rw [this, ← shift_add x _ p hp]
    exact var_shift (by grind) _
theorem within_var (p : List Rat) (a b : Rat) : withinL p a b = (var (shiftL a p) : Int) - var (shiftL b p) := by
  unfold withinL lessL equalL; omega
theorem within_nonneg {a b : Rat} (h : a ≤ b) (p : List Rat) (hp : p.length ≤ 5) : 0 ≤ withinL p a b := by
  rw [within_var]; have := var_mono h p hp; omega
theorem within_add (p : List Rat) (a b c : Rat) : withinL p a c = withinL p a b + withinL p b c := by
  rw [within_var, within_var, within_var]; omega
end Go.Proofs.YtldokelpolbnnaaGreatDoor
end
section
set_option linter.unusedVariables false
set_option linter.unusedSimpArgs false
namespace Go.Proofs.YtldokelpolbnnaaGreatDoor
def Cls (p s : List Rat) : Prop := (∃ k : Rat, k ≠ 0 ∧ s = p.map (· / k)) ∨ (∃ (d d' : List Rat) (k : Rat), k ≠ 0 ∧ p = prodL d ∧ s = (prodL d').map (· / k) ∧ d'.length ≤ 3 ∧ ∀ x, x ∈ d ↔ x ∈ d')
theorem trim_nil (l : List Rat) (h : ∀ q ∈ l, q = 0) : trimL l = [] := by
  have key : ∀ n, n ≤ l.length → trimGo l n = 0 := by
    intro n
    induction n with
    | zero => intro _; rfl
    | succ n ih =>
      intro hn
      unfold trimGo
      rw [if_pos, ih (by omega)]
      have : gR l n = l[n] := by simp [gR, show n < l.length by omega]
      rw [this]; exact h _ (List.getElem_mem _)
  unfold trimL; rw [key _ (Nat.le_refl _)]; rfl
theorem div_const {k : Rat} (hk : k ≠ 0) (p : List Rat) (hp : p.length ≤ 5) : quoL p [k] = p.map (· / k) ∧ remL p [k] = [] := by
  have e : ∀ a : Rat, a - a / k * k = 0 := fun a => by grind
  have key : divL p [k] = (p.map (· / k), p.map fun _ => 0) := by
    match p, hp with
    | [], _ => simp [divL, divGo]
    | [a], _ => simp [divL, divGo, subGo, gR, e]
    | [a, b], _ => simp [divL, divGo, subGo, gR, e]
    | [a, b, c], _ => simp [divL, divGo, subGo, gR, e]
    | [a, b, c, d], _ => simp [divL, divGo, subGo, gR, e]
    | [a, b, c, d, f], _ => simp [divL, divGo, subGo, gR, e]
  refine ⟨by unfold quoL; rw [key], ?_⟩
  unfold remL
  rw [key]
  exact trim_nil _ (fun q hq => by simp at hq; exact hq.2.symm)
theorem div21 (c0 c1 c2 d0 d1 : Rat) (h : d1 ≠ 0) : quoL [c0, c1, c2] [d0, d1] = [(c1 - c2 / d1 * d0) / d1, c2 / d1] ∧ remL [c0, c1, c2] [d0, d1] = if c0 - (c1 - c2 / d1 * d0) / d1 * d0 = 0 then [] else [c0 - (c1 - c2 / d1 * d0) / d1 * d0] := by
  have e : ∀ a : Rat, a - a / d1 * d1 = 0 := fun a => by grind
  have key : divL [c0, c1, c2] [d0, d1] = ([(c1 - c2 / d1 * d0) / d1, c2 / d1], [c0 - (c1 - c2 / d1 * d0) / d1 * d0, 0, 0]) := by
    simp [divL, divGo, subGo, gR, e]
  refine ⟨by unfold quoL; rw [key], ?_⟩
  unfold remL
  rw [key]
  simp only [trimL, trimGo, gR, List.length_cons, List.length_nil]
  simp only [List.getD_cons_succ, List.getD_cons_zero, if_true]
  split <;> rfl
theorem div32 (c0 c1 c2 c3 d0 d1 d2 : Rat) (h : d2 ≠ 0) : quoL [c0, c1, c2, c3] [d0, d1, d2] = [(c2 - c3 / d2 * d1) / d2, c3 / d2] ∧ remL [c0, c1, c2, c3] [d0, d1, d2] = trimL [c0 - (c2 - c3 / d2 * d1) / d2 * d0, c1 - c3 / d2 * d0 - (c2 - c3 / d2 * d1) / d2 * d1, 0, 0] := by
  have e : ∀ a : Rat, a - a / d2 * d2 = 0 := fun a => by grind
  have key : divL [c0, c1, c2, c3] [d0, d1, d2] = ([(c2 - c3 / d2 * d1) / d2, c3 / d2], [c0 - (c2 - c3 / d2 * d1) / d2 * d0, c1 - c3 / d2 * d0 - (c2 - c3 / d2 * d1) / d2 * d1, 0, 0]) := by
    simp [divL, divGo, subGo, gR, e]
  exact ⟨by unfold quoL; rw [key], by unfold remL; rw [key]⟩
theorem quo31 (c0 c1 c2 c3 d0 d1 : Rat) (h : d1 ≠ 0) : quoL [c0, c1, c2, c3] [d0, d1] = [(c1 - (c2 - c3 / d1 * d0) / d1 * d0) / d1, (c2 - c3 / d1 * d0) / d1, c3 / d1] := by
  have e : ∀ a : Rat, a - a / d1 * d1 = 0 := fun a => by grind
  have key : divL [c0, c1, c2, c3] [d0, d1] = ([(c1 - (c2 - c3 / d1 * d0) / d1 * d0) / d1, (c2 - c3 / d1 * d0) / d1, c3 / d1], [c0 - (c1 - (c2 - c3 / d1 * d0) / d1 * d0) / d1 * d0, 0, 0, 0]) := by
    simp [divL, divGo, subGo, gR, e]
  unfold quoL; rw [key]
theorem der1 (a b : Rat) : derL [a, b] = [b] := by simp [derL, derGo, gR]
theorem der2 (a b c : Rat) : derL [a, b, c] = [b, c * 2] := by simp [derL, derGo, gR]
theorem der3 (a b c d : Rat) : derL [a, b, c, d] = [b, c * 2, d * 3] := by simp [derL, derGo, gR]
theorem simGo_succ (f : Nat) (a b : List Rat) (h : b ≠ []) : simGo (f + 1) a b = simGo f b (remL a b) := by rw [simGo, if_neg h]
theorem simGo_const (f : Nat) (a : List Rat) (k : Rat) (hk : k ≠ 0) (ha : a.length ≤ 5) : simGo (f + 1) a [k] = [k] := by
  rw [simGo_succ _ _ _ (by simp), (div_const hk a ha).2, simGo_nil]
theorem cls1 (c0 : Rat) (f : Nat) : Cls [c0, 1] (simpL (f + 1) [c0, 1]) := by
  refine .inl ⟨1, by decide, ?_⟩
  unfold simpL
  rw [der1, simGo_const _ _ _ (by decide) (by simp), (div_const (by decide) _ (by simp)).1]
theorem cls2 (c0 c1 : Rat) (f : Nat) : Cls [c0, c1, 1] (simpL (f + 2) [c0, c1, 1]) := by
  unfold simpL
  rw [der2, simGo_succ _ _ _ (by simp)]
  obtain ⟨h1, h2⟩ := div21 c0 c1 1 c1 (1 * 2) (by grind)
  rw [h2]
  split
  · rename_i h0
    rw [simGo_nil, h1]
    refine .inr ⟨[-c1 / 2, -c1 / 2], [-c1 / 2], 2, by decide, ?_, ?_, by simp, fun x => by simp⟩
    · simp [prodL, mulL]; grind
    · simp [prodL, mulL]; grind
  · rename_i h0
    rw [simGo_const _ _ _ h0 (by simp), (div_const h0 _ (by simp)).1]
    exact .inl ⟨_, h0, rfl⟩
theorem cls3 (c0 c1 c2 : Rat) (f : Nat) : Cls [c0, c1, c2, 1] (simpL (f + 3) [c0, c1, c2, 1]) := by
  unfold simpL
  rw [der3, simGo_succ _ _ _ (by simp)]
  obtain ⟨h1, h2⟩ := div32 c0 c1 c2 1 c1 (c2 * 2) (1 * 3) (by grind)
  rw [h2]
  obtain ⟨r0, hr0⟩ : ∃ r0, r0 = c0 - (c2 - 1 / (1 * 3) * (c2 * 2)) / (1 * 3) * c1 := ⟨_, rfl⟩
  obtain ⟨r1, hr1⟩ : ∃ r1, r1 = c1 - 1 / (1 * 3) * c1 - (c2 - 1 / (1 * 3) * (c2 * 2)) / (1 * 3) * (c2 * 2) := ⟨_, rfl⟩
  rw [← hr0, ← hr1]
  have ht : trimL [r0, r1, 0, 0] = if r1 = 0 then (if r0 = 0 then [] else [r0]) else [r0, r1] := by
    simp only [trimL, trimGo, gR, List.length_cons, List.length_nil]
    simp only [List.getD_cons_succ, List.getD_cons_zero, if_true]
    by_cases e1 : r1 = 0
    · rw [if_pos e1, if_pos e1]
      by_cases e0 : r0 = 0
      · rw [if_pos e0, if_pos e0]; rfl
      · rw [if_neg e0, if_neg e0]; rfl
    · rw [if_neg e1, if_neg e1]; rfl
  rw [ht]
  by_cases e1 : r1 = 0
  · rw [if_pos e1]
    by_cases e0 : r0 = 0
    · rw [if_pos e0, simGo_nil, h1]
      have k1 : c1 = c2 * c2 / 3 := by grind
      have k0 : c0 = c2 * c2 * c2 / 27 := by grind
      refine .inr ⟨[-c2 / 3, -c2 / 3, -c2 / 3], [-c2 / 3], 3, by decide, ?_, ?_, by simp, fun x => by simp⟩
      · simp [prodL, mulL]; grind
      · simp [prodL, mulL]; grind
    · rw [if_neg e0, simGo_const _ _ _ e0 (by simp), (div_const e0 _ (by simp)).1]
      exact .inl ⟨_, e0, rfl⟩
  · rw [if_neg e1, simGo_succ _ _ _ (by simp)]
    obtain ⟨_, h4⟩ := div21 c1 (c2 * 2) (1 * 3) r0 r1 e1
    rw [h4]
    split
    · rename_i h0
      rw [simGo_nil, quo31 _ _ _ _ _ _ e1]
      obtain ⟨x, hx⟩ : ∃ x, x = -r0 / r1 := ⟨_, rfl⟩
      have hx0 : r0 = -(x * r1) := by grind
      have hd : c1 + c2 * 2 * x + 3 * x * x = 0 := by
        rw [hx0] at h0
        have e2 : (c2 * 2 - 1 * 3 / r1 * -(x * r1)) = c2 * 2 + 3 * x := by grind
        rw [e2] at h0
        have e3 : (c2 * 2 + 3 * x) / r1 * -(x * r1) = -((c2 * 2 + 3 * x) * x) := by grind
        rw [e3] at h0
        grind
      have hp : c0 + c1 * x + c2 * x * x + x * x * x = 0 := by
        have h5 : c0 + c1 * x + c2 * x * x + x * x * x = (c1 + c2 * 2 * x + 3 * x * x) * (c2 / 9 + x / 3) + (r0 + r1 * x) := by rw [hr0, hr1]; grind
        rw [h5, hd, hx0]; grind
      refine .inr ⟨[x, x, -c2 - 2 * x], [x, -c2 - 2 * x], r1, e1, ?_, ?_, by simp, fun y => by simp⟩
      · simp [prodL, mulL]; grind
      · have e4 : (c2 - 1 / r1 * r0) / r1 = (c2 + x) / r1 := by rw [hx0]; congr 1; grind
        have e5 : (c1 - (c2 + x) / r1 * r0) / r1 = (c1 + (c2 + x) * x) / r1 := by rw [hx0]; congr 1; grind
        rw [e4, e5]
        simp [prodL, mulL]
        refine ⟨?_, ?_⟩
        · congr 1; grind
        · congr 1; grind
    · rename_i h0
      rw [simGo_const _ _ _ h0 (by simp), (div_const h0 _ (by simp)).1]
      exact .inl ⟨_, h0, rfl⟩
end Go.Proofs.YtldokelpolbnnaaGreatDoor
end
section
set_option linter.unusedVariables false
set_option linter.unusedSimpArgs false
namespace Go.Proofs.YtldokelpolbnnaaGreatDoor
theorem sg_div_pos {k q : Rat} (hk : 0 < k) : sg (q / k) = sg q := by
  rw [show q / k = (1 / k) * q by grind]
  refine sg_mulpos ?_
  have e : k * (1 / k) = 1 := by grind
  rcases sg_cases (1 / k) with ⟨h, _⟩ | ⟨h, _⟩ | ⟨h, _⟩
  · have := mul_neg_of hk h; grind
  · rw [h] at e; grind
  · exact h
theorem chg_congr : ∀ {l l' : List Rat} (s : Int), l.map sg = l'.map sg → chg s l = chg s l'
  | [], [], s, _ => rfl
  | [], _ :: _, s, h => by simp at h
  | _ :: _, [], s, h => by simp at h
  | q :: l, q' :: l', s, h => by
    simp only [List.map_cons, List.cons.injEq] at h
    rw [chg_cons, chg_cons, h.1, chg_congr s h.2, chg_congr (-s) h.2]
theorem sg_nz {q : Rat} : sg q = 0 ↔ q = 0 := by
  rcases sg_cases q with ⟨h1, h2⟩ | ⟨h1, h2⟩ | ⟨h1, h2⟩
  · rw [h2]; constructor
    · intro e; simp at e
    · intro e; grind
  · rw [h2, h1]; simp
  · rw [h2]; constructor
    · intro e; simp at e
    · intro e; grind
theorem var_congr : ∀ {l l' : List Rat}, l.map sg = l'.map sg → var l = var l'
  | [], [], _ => rfl
  | [], _ :: _, h => by simp at h
  | _ :: _, [], h => by simp at h
  | q :: l, q' :: l', h => by
    simp only [List.map_cons, List.cons.injEq] at h
    rw [var_cons, var_cons]
    by_cases e : q = 0
    · rw [if_pos e, if_pos (by rw [← sg_nz, ← h.1]; exact sg_nz.2 e)]; exact var_congr h.2
    · rw [if_neg e, if_neg (fun e' => e (by rw [← sg_nz, h.1]; exact sg_nz.2 e')), h.1, chg_congr _ h.2]
theorem var_scale {k : Rat} (hk : k ≠ 0) (l : List Rat) : var (l.map (· / k)) = var l := by
  have key : ∀ {k : Rat}, 0 < k → var (l.map (· / k)) = var l := fun hk => var_congr (by
    rw [List.map_map]
    exact List.map_congr_left fun q _ => sg_div_pos hk)
  rcases sg_cases k with ⟨h1, _⟩ | ⟨h1, _⟩ | ⟨h1, _⟩
  · have h2 := key (k := -k) (by grind)
    rw [← h2, ← var_neg, List.map_map]
    congr 1
    exact List.map_congr_left fun q _ => by show -(q / k) = q / -k; grind
  · exact absurd h1 hk
  · exact key h1
theorem shift_scale (x k : Rat) (p : List Rat) (hp : p.length ≤ 5) : shiftL x (p.map (· / k)) = (shiftL x p).map (· / k) := by
  match p, hp with
  | [], _ => rfl
  | [a], _ => simp only [List.map]; rw [shift0, shift0]; simp
  | [a, b], _ => simp only [List.map]; rw [shift1, shift1]; simp only [List.map, List.cons.injEq, and_true]; grind
  | [a, b, c], _ => simp only [List.map]; rw [shift2, shift2]; simp only [List.map, List.cons.injEq, and_true]; grind
  | [a, b, c, d], _ => simp only [List.map]; rw [shift3, shift3]; simp only [List.map, List.cons.injEq, and_true]; grind
  | [a, b, c, d, e], _ => simp only [List.map]; rw [shift4, shift4]; simp only [List.map, List.cons.injEq, and_true]; grind
theorem within_scale {k : Rat} (hk : k ≠ 0) (p : List Rat) (hp : p.length ≤ 5) (a b : Rat) : withinL (p.map (· / k)) a b = withinL p a b := by
  rw [within_var, within_var, shift_scale _ _ _ hp, shift_scale _ _ _ hp, var_scale hk, var_scale hk]
def cntG (d : List Rat) (x : Rat) : Nat := (d.filter (fun e => decide (x < e))).length
theorem var_split (d : List Rat) (x : Rat) (h0 : d ≠ []) (h : d.length ≤ 3) : var (shiftL x (prodL d)) = cntG d x := by
  rw [shiftP x d h0 h, var_prod, List.filter_map, List.length_map]
  unfold cntG; congr 2; funext e
  exact decide_eq_decide.2 (by grind)
def cntB (d : List Rat) (a b : Rat) : Nat := (d.filter (fun e => decide (a < e ∧ e ≤ b))).length
theorem cnt_split {a b : Rat} (hab : a ≤ b) : ∀ d : List Rat, cntG d a = cntG d b + cntB d a b
  | [] => rfl
  | e :: d => by
    have ih := cnt_split hab d
    have e1 : cntG (e :: d) a = (if a < e then 1 else 0) + cntG d a := by
      unfold cntG; rw [List.filter_cons]
      by_cases h : a < e
      · rw [if_pos (decide_eq_true h), if_pos h, List.length_cons]; omega
      · rw [if_neg (by simp [h]), if_neg h]; omega
    have e2 : cntG (e :: d) b = (if b < e then 1 else 0) + cntG d b := by
      unfold cntG; rw [List.filter_cons]
      by_cases h : b < e
      · rw [if_pos (decide_eq_true h), if_pos h, List.length_cons]; omega
      · rw [if_neg (by simp [h]), if_neg h]; omega
    have e3 : cntB (e :: d) a b = (if a < e ∧ e ≤ b then 1 else 0) + cntB d a b := by
      unfold cntB; rw [List.filter_cons]
      by_cases h : a < e ∧ e ≤ b
      · rw [if_pos (decide_eq_true h), if_pos h, List.length_cons]; omega
      · rw [if_neg (by simpa using h), if_neg h]; omega
    rw [e1, e2, e3, ih]
    by_cases h1 : a < e
    · by_cases h2 : b < e
      · rw [if_pos h1, if_pos h2, if_neg (by grind)]; omega
      · rw [if_pos h1, if_neg h2, if_pos (by grind)]; omega
    · rw [if_neg h1, if_neg (by grind), if_neg (by grind)]; omega
theorem within_split {d : List Rat} {a b : Rat} (hab : a ≤ b) (h0 : d ≠ []) (h : d.length ≤ 3) : withinL (prodL d) a b = (cntB d a b : Int) := by
  rw [within_var, var_split _ _ h0 h, var_split _ _ h0 h, cnt_split hab]; omega
theorem cntB_zero {d : List Rat} {a b : Rat} : cntB d a b = 0 ↔ ∀ x ∈ d, ¬ (a < x ∧ x ≤ b) := by
  unfold cntB
  rw [List.length_eq_zero_iff, List.filter_eq_nil_iff]
  simp
structure Fine (p s : List Rat) : Prop where
  lp : p.length ≤ 5
  ls : s.length ≤ 5
  s1 : ∀ a b, a ≤ b → withinL s a b = 0 → withinL p a b = 0
  s2 : ∀ a b, a ≤ b → 1 ≤ withinL s a b → 1 ≤ withinL p a b
theorem Cls.fine {p s : List Rat} (h : Cls p s) (hp : 2 ≤ p.length) (hp4 : p.length ≤ 4) : Fine p s := by
  rcases h with ⟨k, hk, rfl⟩ | ⟨d, d', k, hk, rfl, rfl, hl3, hm⟩
  · refine ⟨by omega, by simp; omega, fun a b _ h => ?_, fun a b _ h => ?_⟩
    · rwa [within_scale hk _ (by omega)] at h
    · rwa [within_scale hk _ (by omega)] at h
  · rw [prodL_length] at hp hp4
    have h0 : d ≠ [] := by intro e; rw [e] at hp; simp at hp
    obtain ⟨x, hx⟩ : ∃ x, x ∈ d := by
      cases d with
      | nil => exact absurd rfl h0
      | cons x d => exact ⟨x, by simp⟩
    have h0' : d' ≠ [] := by intro e; rw [hm, e] at hx; simp at hx
    have hls : (prodL d').length ≤ 5 := by rw [prodL_length]; omega
    refine ⟨by rw [prodL_length]; omega, by simpa using hls, fun a b hab h => ?_, fun a b hab h => ?_⟩
    · rw [within_scale hk _ hls, within_split hab h0' hl3] at h
      rw [within_split hab h0 (by omega)]
      have h1 : cntB d' a b = 0 := by omega
      rw [cntB_zero] at h1
      have : cntB d a b = 0 := cntB_zero.2 fun y hy => h1 y ((hm y).1 hy)
      omega
    · rw [within_scale hk _ hls, within_split hab h0' hl3] at h
      rw [within_split hab h0 (by omega)]
      have h1 : ¬ cntB d a b = 0 := fun e => by
        have : cntB d' a b = 0 := cntB_zero.2 fun y hy => cntB_zero.1 e y ((hm y).2 hy)
        omega
      omega
end Go.Proofs.YtldokelpolbnnaaGreatDoor
end
section
set_option linter.unusedVariables false
set_option linter.unusedSimpArgs false
namespace Go.Proofs.YtldokelpolbnnaaGreatDoor
def catO {α : Type} : Option (List α) → Option (List α) → Option (List α)
  | some l, some l' => some (l ++ l')
  | _, _ => none
def treeL (all sim : List Rat) (h : Nat) : Nat → Rat → Rat → Nat → Option (List (Rat × Rat × Int))
  | 0, lo, hi, k => if withinL sim lo hi = 0 then some [] else if withinL sim lo hi = 1 ∧ h ≤ k then some [(lo, hi, withinL all lo hi)] else none
  | f + 1, lo, hi, k => if withinL sim lo hi = 0 then some [] else if withinL sim lo hi = 1 ∧ h ≤ k then some [(lo, hi, withinL all lo hi)] else
    catO (treeL all sim h f lo ((lo + hi) / 2) (k + 1)) (treeL all sim h f ((lo + hi) / 2) hi (k + 1))
theorem treeL_cases (all sim : List Rat) (h f : Nat) (lo hi : Rat) (k : Nat) : (withinL sim lo hi = 0 ∧ treeL all sim h f lo hi k = some []) ∨ (withinL sim lo hi = 1 ∧ h ≤ k ∧ treeL all sim h f lo hi k = some [(lo, hi, withinL all lo hi)]) ∨
    (withinL sim lo hi ≠ 0 ∧ ¬ (withinL sim lo hi = 1 ∧ h ≤ k) ∧ ((f = 0 ∧ treeL all sim h f lo hi k = none) ∨ ∃ g, f = g + 1 ∧ treeL all sim h f lo hi k = catO (treeL all sim h g lo ((lo + hi) / 2) (k + 1)) (treeL all sim h g ((lo + hi) / 2) hi (k + 1)))) := by
  by_cases h0 : withinL sim lo hi = 0
  · left; refine ⟨h0, ?_⟩; cases f <;> rw [treeL, if_pos h0]
  · right
    by_cases h1 : withinL sim lo hi = 1 ∧ h ≤ k
    · left; refine ⟨h1.1, h1.2, ?_⟩; cases f <;> rw [treeL, if_neg h0, if_pos h1]
    · right; refine ⟨h0, h1, ?_⟩
      cases f with
      | zero => left; exact ⟨rfl, by rw [treeL, if_neg h0, if_neg h1]⟩
      | succ g => right; exact ⟨g, rfl, by rw [treeL, if_neg h0, if_neg h1]⟩
def Dy (k : Nat) (q : Rat) : Prop := ∃ z : Int, q = Rat.divInt z ((2 ^ k : Nat) : Int) ∧ z.natAbs ≤ 100 * 2 ^ k
theorem Dy.small {k : Nat} {q : Rat} (h : Dy k q) (hk : k ≤ 60) : smallB q = true := by
  obtain ⟨z, rfl, hz⟩ := h
  have h2 : 0 < 2 ^ k := Nat.pow_pos (by omega)
  have h3 : 2 ^ k ≤ 2 ^ 60 := Nat.pow_le_pow_right (by omega) hk
  obtain ⟨e1, e2, e3⟩ := new_pos (y := z) (z := ((2 ^ k : Nat) : Int)) (by omega)
  have hg0 : 0 < Nat.gcd z.natAbs (2 ^ k) := Nat.gcd_pos_of_pos_right _ h2
  simp only [smallB, Bool.and_eq_true, decide_eq_true_eq]
  have hbig : 100 * 2 ^ 60 < 10 ^ 100 := by decide
  constructor
  · rw [e1, Int.natAbs_tdiv]
    exact Nat.lt_of_le_of_lt (Nat.le_trans (Nat.div_le_self _ _) (Nat.le_trans hz (Nat.mul_le_mul_left _ h3))) hbig
  · have h4 : (Rat.divInt z ((2 ^ k : Nat) : Int)).den ≤ 2 ^ k := by
      have h5 : ((Rat.divInt z ((2 ^ k : Nat) : Int)).den : Int) = ((2 ^ k / Nat.gcd z.natAbs (2 ^ k) : Nat) : Int) := by
        rw [e2, Int.natAbs_natCast, Int.tdiv_eq_ediv_of_nonneg (by omega)]; rfl
      have h6 : 2 ^ k / Nat.gcd z.natAbs (2 ^ k) ≤ 2 ^ k := Nat.div_le_self _ _
      omega
    have h7 : 2 ^ 60 < 10 ^ 100 := by decide
    omega
theorem dy_up {k : Nat} {q : Rat} (h : Dy k q) : Dy (k + 1) q := by
  obtain ⟨z, rfl, hz⟩ := h
  refine ⟨2 * z, ?_, by rw [Nat.pow_succ]; omega⟩
  have h2 : (((2 ^ k : Nat) : Int) : Rat) ≠ 0 := by
    have : 0 < 2 ^ k := Nat.pow_pos (by omega)
    intro e
    have := Rat.intCast_eq_zero_iff.1 e
    omega
  rw [Rat.divInt_eq_div, Rat.divInt_eq_div, Nat.pow_succ, Int.natCast_mul, Rat.intCast_mul, Rat.intCast_mul]
  generalize (((2 ^ k : Nat) : Int) : Rat) = D at *
  have : (((2 : Nat) : Int) : Rat) = 2 := by decide
  have h3 : ((2 : Int) : Rat) = 2 := by decide
  rw [this, h3]; grind
theorem dy_mid {k : Nat} {q r : Rat} (h : Dy k q) (h' : Dy k r) : Dy (k + 1) ((q + r) / 2) := by
  obtain ⟨z, rfl, hz⟩ := h
  obtain ⟨y, rfl, hy⟩ := h'
  refine ⟨z + y, ?_, by rw [Nat.pow_succ]; omega⟩
  have h2 : (((2 ^ k : Nat) : Int) : Rat) ≠ 0 := by
    have : 0 < 2 ^ k := Nat.pow_pos (by omega)
    intro e
    have := Rat.intCast_eq_zero_iff.1 e
    omega
  rw [Rat.divInt_eq_div, Rat.divInt_eq_div, Rat.divInt_eq_div, Nat.pow_succ, Int.natCast_mul, Rat.intCast_mul, Rat.intCast_add]
  generalize (((2 ^ k : Nat) : Int) : Rat) = D at *
  have : (((2 : Nat) : Int) : Rat) = 2 := by decide
  rw [this]; grind
theorem mid_le {lo hi : Rat} (h : lo ≤ hi) : lo ≤ (lo + hi) / 2 ∧ (lo + hi) / 2 ≤ hi := by constructor <;> grind
theorem spec_tree {all sim : List Rat} {h : Nat} (hs : sim.length ≤ 5) : ∀ (f : Nat) (lo hi : Rat) (k : Nat), k + f = 60 → Dy k lo → Dy k hi → lo ≤ hi → ∀ (st : List (Rat × Rat × Nat)) (out : List (Rat × Rat × Int)) (n : Nat) (r : Option (List (Rat × Rat × Int))),
    (match treeL all sim h f lo hi k with | none => r = none | some l => specR all sim h n st (out ++ l) = some r) → ∃ N, N ≤ n + 1 + 2 * (withinL sim lo hi).toNat * f ∧ specR all sim h N ((lo, hi, k) :: st) out = some r := by
  intro f
  induction f with
  | zero =>
    intro lo hi k hk dl dh hle st out n r hr
    have hsm : (smallB lo && smallB hi) = true := by rw [dl.small (by omega), dh.small (by omega)]; rfl
    rcases treeL_cases all sim h 0 lo hi k with ⟨h0, e⟩ | ⟨h1, h2, e⟩ | ⟨h0, h1, ⟨_, e⟩ | ⟨g, hg, _⟩⟩
    · rw [e] at hr
      simp only [List.append_nil] at hr
      exact ⟨n + 1, by omega, by rw [specR, if_pos hsm, if_pos h0]; exact hr⟩
    · rw [e] at hr
      exact ⟨n + 1, by omega, by rw [specR, if_pos hsm, if_neg (by rw [h1]; decide), if_pos ⟨h1, h2⟩]; exact hr⟩
    · rw [e] at hr
      simp only at hr
      subst hr
      exact ⟨n + 1, by omega, by rw [specR, if_pos hsm, if_neg h0, if_neg h1, if_pos (show 60 ≤ k by omega)]⟩
    · omega
  | succ f ih =>
    intro lo hi k hk dl dh hle st out n r hr
    have hsm : (smallB lo && smallB hi) = true := by rw [dl.small (by omega), dh.small (by omega)]; rfl
    rcases treeL_cases all sim h (f + 1) lo hi k with ⟨h0, e⟩ | ⟨h1, h2, e⟩ | ⟨h0, h1, ⟨h2, _⟩ | ⟨g, hg, e⟩⟩
    · rw [e] at hr
      simp only [List.append_nil] at hr
      exact ⟨n + 1, by omega, by rw [specR, if_pos hsm, if_pos h0]; exact hr⟩
    · rw [e] at hr
      exact ⟨n + 1, by omega, by rw [specR, if_pos hsm, if_neg (by rw [h1]; decide), if_pos ⟨h1, h2⟩]; exact hr⟩
    · omega
    · obtain rfl : g = f := by omega
      obtain ⟨m1, m2⟩ := mid_le hle
      have w0 := within_nonneg m1 sim hs
      have w1 := within_nonneg m2 sim hs
      have wa := within_add sim lo ((lo + hi) / 2) hi
      have wn := within_nonneg hle sim hs
      have dm := dy_mid dl dh
      have ihl := ih lo ((lo + hi) / 2) (k + 1) (by omega) (dy_up dl) dm m1
      have ihr := ih ((lo + hi) / 2) hi (k + 1) (by omega) dm (dy_up dh) m2
      have hstep : ∀ N, specR all sim h (N + 1) ((lo, hi, k) :: st) out = specR all sim h N ((lo, (lo + hi) / 2, k + 1) :: ((lo + hi) / 2, hi, k + 1) :: st) out := fun N => by
        rw [specR, if_pos hsm, if_neg h0, if_neg h1, if_neg (show ¬ 60 ≤ k by omega)]
      obtain ⟨w, hw⟩ : ∃ w : Nat, withinL sim lo hi = (w : Int) := ⟨_, (Int.toNat_of_nonneg wn).symm⟩
      obtain ⟨x, hx⟩ : ∃ x : Nat, withinL sim lo ((lo + hi) / 2) = (x : Int) := ⟨_, (Int.toNat_of_nonneg w0).symm⟩
      obtain ⟨y, hy⟩ : ∃ y : Nat, withinL sim ((lo + hi) / 2) hi = (y : Int) := ⟨_, (Int.toNat_of_nonneg w1).symm⟩
      rw [hx] at ihl
      rw [hy] at ihr
      rw [hw]
      simp only [Int.toNat_natCast] at ihl ihr ⊢
      have hwxy : w = x + y := by rw [hw, hx, hy] at wa; omega
      have hw1 : 1 ≤ w := by rw [hw] at h0; omega
      have hmul : 2 * w * (g + 1) = 2 * x * g + 2 * y * g + 2 * w := by rw [hwxy]; grind
      rw [e] at hr
      cases hL : treeL all sim h g lo ((lo + hi) / 2) (k + 1) with
      | none =>
        rw [hL] at hr ihl
        simp only [catO] at hr
        obtain ⟨N, hN, hN2⟩ := ihl (((lo + hi) / 2, hi, k + 1) :: st) out 0 r hr
        exact ⟨N + 1, by omega, by rw [hstep]; exact hN2⟩
      | some l =>
        rw [hL] at ihl
        cases hR : treeL all sim h g ((lo + hi) / 2) hi (k + 1) with
        | none =>
          rw [hL, hR] at hr
          simp only [catO] at hr
          rw [hR] at ihr
          obtain ⟨N2, hN2, hN3⟩ := ihr st (out ++ l) 0 r hr
          obtain ⟨N, hN, hN4⟩ := ihl (((lo + hi) / 2, hi, k + 1) :: st) out N2 r hN3
          exact ⟨N + 1, by omega, by rw [hstep]; exact hN4⟩
        | some l' =>
          rw [hL, hR] at hr
          simp only [catO] at hr
          rw [hR] at ihr
          obtain ⟨N2, hN2, hN3⟩ := ihr st (out ++ l) n r (by simp only; rw [List.append_assoc]; exact hr)
          obtain ⟨N, hN, hN4⟩ := ihl (((lo + hi) / 2, hi, k + 1) :: st) out N2 r hN3
          exact ⟨N + 1, by omega, by rw [hstep]; exact hN4⟩
theorem catO_some {α : Type} {a b : Option (List α)} {l : List α} (h : catO a b = some l) : ∃ x y, a = some x ∧ b = some y ∧ l = x ++ y := by
  cases a with
  | none => simp [catO] at h
  | some x => cases b with
    | none => simp [catO] at h
    | some y => simp only [catO, Option.some.injEq] at h; exact ⟨x, y, rfl, rfl, h.symm⟩
theorem tree_small {all sim : List Rat} {h : Nat} : ∀ (f : Nat) (lo hi : Rat) (k : Nat), k + f = 60 → Dy k lo → Dy k hi → ∀ l, treeL all sim h f lo hi k = some l → ∀ x ∈ l, smallB x.1 = true ∧ smallB x.2.1 = true := by
  intro f
  induction f with
  | zero =>
    intro lo hi k hk dl dh l e x hx
    rcases treeL_cases all sim h 0 lo hi k with ⟨h0, e1⟩ | ⟨h0, _, e1⟩ | ⟨h0, h1, ⟨_, e1⟩ | ⟨g, hg, _⟩⟩
    · rw [e1] at e; cases e; simp at hx
    · rw [e1] at e; cases e; simp at hx; subst hx; exact ⟨dl.small (by omega), dh.small (by omega)⟩
    · rw [e1] at e; cases e
    · omega
  | succ f ih =>
    intro lo hi k hk dl dh l e x hx
    rcases treeL_cases all sim h (f + 1) lo hi k with ⟨h0, e1⟩ | ⟨h0, _, e1⟩ | ⟨h0, h1, ⟨h2, _⟩ | ⟨g, hg, e1⟩⟩
    · rw [e1] at e; cases e; simp at hx
    · rw [e1] at e; cases e; simp at hx; subst hx; exact ⟨dl.small (by omega), dh.small (by omega)⟩
    · omega
    · obtain rfl : g = f := by omega
      have dm := dy_mid dl dh
      rw [e1] at e
      obtain ⟨y, z, x1, x2, rfl⟩ := catO_some e
      rcases List.mem_append.1 hx with hx | hx
      · exact ih _ _ (k + 1) (by omega) (dy_up dl) dm _ x1 x hx
      · exact ih _ _ (k + 1) (by omega) dm (dy_up dh) _ x2 x hx
end Go.Proofs.YtldokelpolbnnaaGreatDoor
end
section
set_option linter.unusedVariables false
set_option linter.unusedSimpArgs false
namespace Go.Proofs.YtldokelpolbnnaaGreatDoor
theorem absR_nonneg (q : Rat) : 0 ≤ absR q := by unfold absR; split <;> grind
theorem absR_sq (q : Rat) : absR q * absR q = q * q := by unfold absR; split <;> grind
theorem absR_le (q : Rat) : q ≤ absR q ∧ -q ≤ absR q := by unfold absR; split <;> constructor <;> grind
theorem absR_neg (q : Rat) : absR (-q) = absR q := by
  unfold absR
  by_cases h : q < 0
  · rw [if_neg (by grind), if_pos h]
  · by_cases h' : q = 0
    · subst h'; rfl
    · rw [if_pos (by grind), if_neg h]; grind
theorem nn_mul {a b : Rat} (ha : 0 ≤ a) (hb : 0 ≤ b) : 0 ≤ a * b := Rat.mul_nonneg ha hb
theorem dd2 {x y b : Rat} (hx : absR b < x) (hy : absR b < y) : 0 < x * y - b * b := by
  have h0 := absR_nonneg b
  have h1 := absR_sq b
  have h2 : 0 < (x - absR b) * (y - absR b) := Rat.mul_pos (by grind) (by grind)
  have h3 : 0 ≤ absR b * (x - absR b) := nn_mul h0 (by grind)
  have h4 : 0 ≤ absR b * (y - absR b) := nn_mul h0 (by grind)
  grind
theorem dd3 {x y z b c f : Rat} (hx : absR b + absR c < x) (hy : absR b + absR f < y) (hz : absR c + absR f < z) : 0 < x * (y * z - f * f) - b * (b * z - f * c) + c * (b * f - y * c) := by
  have b0 := absR_nonneg b
  have c0 := absR_nonneg c
  have f0 := absR_nonneg f
  have b1 := absR_sq b
  have c1 := absR_sq c
  have f1 := absR_sq f
  have hm : 0 ≤ b * c * f + absR b * absR c * absR f := by
    unfold absR
    by_cases hb : b < 0 <;> by_cases hc : c < 0 <;> by_cases hf : f < 0 <;> simp only [hb, hc, hf, if_true, if_false]
    · have := nn_mul (nn_mul (show 0 ≤ -b by grind) (show 0 ≤ -c by grind)) (show 0 ≤ -f by grind); grind
    · have := nn_mul (nn_mul (show 0 ≤ -b by grind) (show 0 ≤ -c by grind)) (show 0 ≤ f by grind); grind
    · have := nn_mul (nn_mul (show 0 ≤ -b by grind) (show 0 ≤ c by grind)) (show 0 ≤ -f by grind); grind
    · have := nn_mul (nn_mul (show 0 ≤ -b by grind) (show 0 ≤ c by grind)) (show 0 ≤ f by grind); grind
    · have := nn_mul (nn_mul (show 0 ≤ b by grind) (show 0 ≤ -c by grind)) (show 0 ≤ -f by grind); grind
    · have := nn_mul (nn_mul (show 0 ≤ b by grind) (show 0 ≤ -c by grind)) (show 0 ≤ f by grind); grind
    · have := nn_mul (nn_mul (show 0 ≤ b by grind) (show 0 ≤ c by grind)) (show 0 ≤ -f by grind); grind
    · have := nn_mul (nn_mul (show 0 ≤ b by grind) (show 0 ≤ c by grind)) (show 0 ≤ f by grind); grind
  generalize absR b = α at *
  generalize absR c = β at *
  generalize absR f = γ at *
  obtain ⟨s, hs⟩ : ∃ s, s = x - α - β := ⟨_, rfl⟩
  obtain ⟨t, ht⟩ : ∃ t, t = y - α - γ := ⟨_, rfl⟩
  obtain ⟨r, hr⟩ : ∃ r, r = z - β - γ := ⟨_, rfl⟩
  have s0 : 0 < s := by grind
  have t0 : 0 < t := by grind
  have r0 : 0 < r := by grind
  have e : x * (y * z - f * f) - b * (b * z - f * c) + c * (b * f - y * c) = s * t * r + (s + t + r) * (α * β + α * γ + β * γ) + s * t * (β + γ) + s * r * (α + γ) + t * r * (α + β) + 2 * (b * c * f + α * β * γ) := by
    have : x = s + α + β := by grind
    have : y = t + α + γ := by grind
    have : z = r + β + γ := by grind
    subst x; subst y; subst z
    have e1 : b * b = α * α := b1.symm
    have e2 : c * c = β * β := c1.symm
    have e3 : f * f = γ * γ := f1.symm
    rw [show (s + α + β) * ((t + α + γ) * (r + β + γ) - f * f) - b * (b * (r + β + γ) - f * c) + c * (b * f - (t + α + γ) * c) = (s + α + β) * ((t + α + γ) * (r + β + γ) - f * f) - (b * b) * (r + β + γ) - (c * c) * (t + α + γ) + 2 * (b * c * f) by grind, e1, e2, e3]
    grind
  rw [e]
  have p1 : 0 < s * t * r := Rat.mul_pos (Rat.mul_pos s0 t0) r0
  have p2 : 0 ≤ (s + t + r) * (α * β + α * γ + β * γ) := nn_mul (by grind) (by have := nn_mul b0 c0; have := nn_mul b0 f0; have := nn_mul c0 f0; grind)
  have p3 : 0 ≤ s * t * (β + γ) := nn_mul (nn_mul (by grind) (by grind)) (by grind)
  have p4 : 0 ≤ s * r * (α + γ) := nn_mul (nn_mul (by grind) (by grind)) (by grind)
  have p5 : 0 ≤ t * r * (α + β) := nn_mul (nn_mul (by grind) (by grind)) (by grind)
  grind
theorem sgp {q : Rat} (h : 0 < q) : sg q = 1 := sg_pos h
theorem varP3 {a b c : Rat} (ha : 0 < a) (hb : 0 < b) (hc : 0 < c) : var [a, b, c] = 0 := by
  rw [var_nz _ (by grind), sgp ha, chg_cons, sgp hb, if_neg (by decide), chg_cons, sgp hc, if_neg (by decide)]; rfl
theorem varP4 {a b c d : Rat} (ha : 0 < a) (hb : 0 < b) (hc : 0 < c) (hd : 0 < d) : var [a, b, c, d] = 0 := by
  rw [var_nz _ (by grind), sgp ha, chg_cons, sgp hb, if_neg (by decide), chg_cons, sgp hc, if_neg (by decide), chg_cons, sgp hd, if_neg (by decide)]; rfl
theorem varN3 {a b c : Rat} (ha : 0 < a) (hb : b < 0) (hc : 0 < c) : var [a, b, c] = 2 := by
  rw [var_nz _ (by grind)]; simp [chg_cons, sgp ha, sg_neg hb, sgp hc, chg]
theorem varN4 {a b c d : Rat} (ha : a < 0) (hb : 0 < b) (hc : c < 0) (hd : 0 < d) : var [a, b, c, d] = 3 := by
  rw [var_nz _ (by grind)]; simp [chg_cons, sg_neg ha, sgp hb, sg_neg hc, sgp hd, chg]
theorem all1 {a E : Rat} (h : absR a < E) : withinL (charL [[a]]) (-E) E = 1 := by
  obtain ⟨h1, h2⟩ := absR_le a
  rw [within_var, char1, shift1, shift1, var_nz _ (show -a + -E * 1 ≠ 0 by grind), var_nz _ (show -a + E * 1 ≠ 0 by grind), sg_neg (show -a + -E * 1 < 0 by grind), sgp (show 0 < -a + E * 1 by grind), chg_cons, chg_cons, sgp (show (0 : Rat) < 1 by decide)]; rfl
theorem all2 {a b d E : Rat} (h1 : absR a + absR b < E) (h2 : absR b + absR d < E) : withinL (charL [[a, b], [b, d]]) (-E) E = 2 := by
  obtain ⟨a1, a2⟩ := absR_le a
  obtain ⟨d1, d2⟩ := absR_le d
  have b0 := absR_nonneg b
  have p1 := dd2 (x := E - a) (y := E - d) (b := b) (by grind) (by grind)
  have p2 := dd2 (x := E + a) (y := E + d) (b := b) (by grind) (by grind)
  rw [within_var, char2, shift2, shift2, varN3 (by grind) (by grind) (by decide), varP3 (by grind) (by grind) (by decide)]; rfl
theorem all3 {a b c e f i E : Rat} (h1 : absR a + absR b + absR c < E) (h2 : absR b + absR e + absR f < E) (h3 : absR c + absR f + absR i < E) : withinL (charL [[a, b, c], [b, e, f], [c, f, i]]) (-E) E = 3 := by
  obtain ⟨a1, a2⟩ := absR_le a
  obtain ⟨e1, e2⟩ := absR_le e
  obtain ⟨i1, i2⟩ := absR_le i
  have b0 := absR_nonneg b
  have c0 := absR_nonneg c
  have f0 := absR_nonneg f
  have p1 := dd3 (x := E - a) (y := E - e) (z := E - i) (b := -b) (c := -c) (f := -f) (by rw [absR_neg, absR_neg]; grind) (by rw [absR_neg, absR_neg]; grind) (by rw [absR_neg, absR_neg]; grind)
  have p2 := dd3 (x := E + a) (y := E + e) (z := E + i) (b := b) (c := c) (f := f) (by grind) (by grind) (by grind)
  have q1 := dd2 (x := E - a) (y := E - e) (b := b) (by grind) (by grind)
  have q2 := dd2 (x := E - a) (y := E - i) (b := c) (by grind) (by grind)
  have q3 := dd2 (x := E - e) (y := E - i) (b := f) (by grind) (by grind)
  have r1 := dd2 (x := E + a) (y := E + e) (b := b) (by grind) (by grind)
  have r2 := dd2 (x := E + a) (y := E + i) (b := c) (by grind) (by grind)
  have r3 := dd2 (x := E + e) (y := E + i) (b := f) (by grind) (by grind)
  rw [within_var, char3, shift3, shift3, varN4 (by grind) (by grind) (by grind) (by decide), varP4 (by grind) (by grind) (by grind) (by decide)]; rfl
end Go.Proofs.YtldokelpolbnnaaGreatDoor
end
section
set_option linter.unusedVariables false
set_option linter.unusedSimpArgs false
namespace Go.Proofs.YtldokelpolbnnaaGreatDoor
theorem subGo_len (q : List Rat) (f : Rat) (t : Nat) : ∀ k i R, (subGo q f t k i R).length = R.length
  | 0, i, R => rfl
  | k + 1, i, R => by rw [subGo, subGo_len q f t k]; simp
theorem subGo_get (q : List Rat) (f : Rat) (t : Nat) : ∀ k i R j, t + i + k ≤ R.length → gR (subGo q f t k i R) j = if t + i ≤ j ∧ j < t + i + k then gR R j - f * gR q (j - t) else gR R j
  | 0, i, R, j, h => by rw [if_neg (by omega)]; rfl
  | k + 1, i, R, j, h => by
    rw [subGo, subGo_get q f t k (i + 1) _ j (by simp; omega), gR_set (by omega)]
    by_cases e : t + i = j
    · rw [if_neg (by omega), if_pos e, if_pos (by omega), ← e, Nat.add_sub_cancel_left]
    · rw [if_neg e]
      by_cases e2 : t + (i + 1) ≤ j ∧ j < t + (i + 1) + k
      · rw [if_pos e2, if_pos (by omega)]
      · rw [if_neg e2, if_neg (by omega)]
theorem rb_up (S : Nat) {a b : Nat} (h : a ≤ b) : rb S a ≤ rb S b := by
  induction b with
  | zero => have : a = 0 := by omega
            subst this; exact Nat.le_refl _
  | succ b ih =>
    rcases Nat.lt_or_ge a (b + 1) with h' | h'
    · exact Nat.le_trans (ih (by omega)) (rb_mono S b)
    · have : a = b + 1 := by omega
      subst this; exact Nat.le_refl _
structure DivF (q : List Rat) (S t n : Nat) (Q R : List Rat) (X : List Rat × List Rat) : Prop where
  lr : X.2.length = R.length
  top : ∀ j, n + q.length - 1 ≤ j → gR X.2 j = gR R j
  zero : ∀ j, q.length - 1 ≤ j → j < n + q.length - 1 → gR X.2 j = 0
  sz : SzL X.2 (rb S (t + n))
  lq : X.1.length = Q.length
  qtop : ∀ j, n ≤ j → gR X.1 j = gR Q j
  qsz : ∀ j, j < n → Sz (gR X.1 j) (rb S (t + n) + S)
theorem divGo_facts {q : List Rat} {S : Nat} (hq : q ≠ []) (hl : gR q (q.length - 1) ≠ 0) (hs : SzL q S) : ∀ n t Q R, n + q.length - 1 ≤ R.length → n ≤ Q.length → SzL R (rb S t) → DivF q S t n Q R (divGo q n Q R)
  | 0, t, Q, R, h1, h2, h3 => ⟨rfl, fun _ _ => rfl, fun j a b => by omega, h3, rfl, fun _ _ => rfl, fun j h => by omega⟩
  | n + 1, t, Q, R, h1, h2, h3 => by
    have hqp := List.length_pos_iff.2 hq
    obtain ⟨F, hF⟩ : ∃ F, F = gR R (n + q.length - 1) / gR q (q.length - 1) := ⟨_, rfl⟩
    have hsR : Sz (gR R (n + q.length - 1)) (rb S t) := h3.at (by omega)
    have hsq : Sz (gR q (q.length - 1)) S := hs.at (by omega)
    have hsF : Sz F (rb S t + S) := by rw [hF]; exact sz_div hsR hsq hl
    have hlen := subGo_len q F n q.length 0 R
    have hget := fun j => subGo_get q F n q.length 0 R j (by omega)
    have hS2 : SzL (subGo q F n q.length 0 R) (rb S (t + 1)) := szL_of fun j hj => by
      rw [hlen] at hj
      rw [hget]
      split
      · rename_i hh
        exact (sz_sub2 (h3.at hj) (sz_mul2 hsF (hs.at (i := j - n) (by omega)))).mono (by show _ ≤ rb S t + (rb S t + S + S) + 1; omega)
      · exact (h3.at hj).mono (rb_mono S t)
    have e : divGo q (n + 1) Q R = divGo q n (Q.set n F) (subGo q F n q.length 0 R) := by rw [divGo, hF]
    have ih := divGo_facts hq hl hs n (t + 1) (Q.set n F) (subGo q F n q.length 0 R) (by omega) (by simp; omega) hS2
    rw [e]
    have htn : t + 1 + n = t + (n + 1) := by omega
    refine ⟨by rw [ih.lr, hlen], fun j hj => ?_, fun j a b => ?_, by rw [← htn]; exact ih.sz, by rw [ih.lq]; simp, fun j hj => ?_, fun j hj => ?_⟩
    · rw [ih.top j (by omega), hget, if_neg (by omega)]
    · by_cases hj : j < n + q.length - 1
      · exact ih.zero j a hj
      · have ej : j = n + q.length - 1 := by omega
        rw [ih.top j (by omega), hget, if_pos (by omega), ej, show n + q.length - 1 - n = q.length - 1 by omega, hF]
        generalize gR q (q.length - 1) = y at *
        grind
    · rw [ih.qtop j (by omega), gR_set (by omega), if_neg (by omega)]
    · by_cases hjn : j < n
      · rw [← htn]; exact ih.qsz j hjn
      · have ej : j = n := by omega
        rw [ih.qtop j (by omega), ej, gR_set (by omega), if_pos rfl]
        have := rb_up S (show t ≤ t + (n + 1) by omega)
        exact hsF.mono (by omega)
theorem trimGo_spec (p : List Rat) : ∀ n, trimGo p n ≤ n ∧ (trimGo p n ≠ 0 → gR p (trimGo p n - 1) ≠ 0) ∧ ∀ j, trimGo p n ≤ j → j < n → gR p j = 0
  | 0 => by simp [trimGo]
  | n + 1 => by
    obtain ⟨h1, h2, h3⟩ := trimGo_spec p n
    unfold trimGo
    by_cases h : gR p n = 0
    · rw [if_pos h]
      refine ⟨by omega, h2, fun j hj hj2 => ?_⟩
      by_cases e : j = n
      · rw [e]; exact h
      · exact h3 j hj (by omega)
    · rw [if_neg h]
      exact ⟨Nat.le_refl _, fun _ => h, fun j hj hj2 => by omega⟩
structure RemF (a b : List Rat) (S : Nat) : Prop where
  len : (remL a b).length < b.length
  last : remL a b ≠ [] → gR (remL a b) ((remL a b).length - 1) ≠ 0
  sz : SzL (remL a b) (rb S (a.length + 1 - b.length))
theorem rem_facts {a b : List Rat} {S : Nat} (hb : b ≠ []) (hl : gR b (b.length - 1) ≠ 0) (ha : SzL a S) (hs : SzL b S) (hlen : b.length ≤ a.length) : RemF a b S := by
  have hbp := List.length_pos_iff.2 hb
  have D := divGo_facts hb hl hs (a.length + 1 - b.length) 0 (List.replicate (a.length + 1 - b.length) 0) a (by omega) (by simp) ha
  have hDs := D.sz
  rw [Nat.zero_add] at hDs
  have e : remL a b = trimL (divGo b (a.length + 1 - b.length) (List.replicate (a.length + 1 - b.length) 0) a).2 := rfl
  generalize divGo b (a.length + 1 - b.length) (List.replicate (a.length + 1 - b.length) 0) a = X at *
  obtain ⟨t1, t2, t3⟩ := trimGo_spec X.2 X.2.length
  have hlr := D.lr
  have ht : trimGo X.2 X.2.length < b.length := by
    rcases Nat.lt_or_ge (trimGo X.2 X.2.length) b.length with h | h
    · exact h
    · exact absurd (D.zero _ (by omega) (by omega)) (t2 (by omega))
  have hel : (remL a b).length = trimGo X.2 X.2.length := by rw [e]; unfold trimL; rw [List.length_take]; omega
  refine ⟨by omega, fun hne => ?_, by rw [e]; exact hDs.take _⟩
  have h0 : trimGo X.2 X.2.length ≠ 0 := fun h => hne (List.length_eq_zero_iff.1 (by omega))
  rw [hel, e]
  unfold trimL
  rw [gR_take (by omega)]
  exact t2 h0
theorem rb_pow (S m : Nat) : rb S m + (2 * S + 1) = 2 ^ m * (S + (2 * S + 1)) := by
  induction m with
  | zero => simp [rb]
  | succ m ih => rw [rb, Nat.pow_succ]; have : 2 ^ m * 2 * (S + (2 * S + 1)) = 2 * (2 ^ m * (S + (2 * S + 1))) := by grind
                 rw [this, ← ih]; omega
theorem rb_b {S m : Nat} (hS : 1 ≤ S) : rb S m ≤ 2 ^ (m + 2) * S := by
  have h := rb_pow S m
  have h1 : 2 ^ (m + 2) * S = 2 ^ m * (4 * S) := by rw [Nat.pow_add]; grind
  have h2 : 2 ^ m * (S + (2 * S + 1)) ≤ 2 ^ m * (4 * S) := Nat.mul_le_mul_left _ (by omega)
  omega
structure EucF (f : Nat) (a b : List Rat) (B : Nat) : Prop where
  ok : simOK f a b
  ne : simGo f a b ≠ []
  len : (simGo f a b).length ≤ a.length
  sz : SzL (simGo f a b) B
  last : gR (simGo f a b) ((simGo f a b).length - 1) ≠ 0
theorem euc : ∀ (f : Nat) (a b : List Rat) (S B : Nat), b.length ≤ f → b.length < a.length → a.length ≤ 5 → 1 ≤ S → gR a (a.length - 1) ≠ 0 → (b ≠ [] → gR b (b.length - 1) ≠ 0) → SzL a S → SzL b S → S ≤ B → (2 ≤ b.length → S * 2 ^ ((a.length - b.length + 3) + 4 * (b.length - 2)) ≤ B) → B ≤ 1000000 → EucF f a b B
  | f, a, [], S, B, _, h1, _, _, hla, _, hsa, _, hSB, _, _ => by
    refine ⟨by cases f <;> trivial, by rw [simGo_nil]; intro e; rw [e] at h1; simp at h1, by rw [simGo_nil]; exact Nat.le_refl _, by rw [simGo_nil]; exact hsa.mono hSB, by rw [simGo_nil]; exact hla⟩
  | 0, a, x :: b, S, B, h0, _, _, _, _, _, _, _, _, _, _ => by simp at h0
  | f + 1, a, x :: b, S, B, h0, h1, h5, hS, hla, hlb, hsa, hsb, hSB, hB, hB6 => by
    have hlb' := hlb (by simp)
    have hane : a ≠ [] := by intro e; rw [e] at h1; simp at h1
    have R := rem_facts (by simp) hlb' hsa hsb (by omega)
    have hrec : EucF f (x :: b) (remL a (x :: b)) B := by
      by_cases hb1 : b = []
      · subst hb1
        have hx : x ≠ 0 := by simpa [gR] using hlb'
        rw [(div_const hx a (by omega)).2]
        exact euc f [x] [] S B (by simp) (by simp) (by simp) hS (by simpa [gR] using hx) (fun h => absurd rfl h) hsb (fun q hq => by simp at hq) hSB (fun h => by simp at h) hB6
      · have hb2 : 2 ≤ (x :: b).length := by
          have := List.length_pos_iff.2 hb1
          simp; omega
        have hSB2 := hB hb2
        have hrb := rb_b (m := a.length + 1 - (x :: b).length) hS
        have R1 := R.len
        have e1 : 2 ^ (a.length + 1 - (x :: b).length + 2) = 2 ^ (a.length - (x :: b).length + 3) := by congr 1; omega
        rw [e1] at hrb
        have hS' : 1 ≤ 2 ^ (a.length - (x :: b).length + 3) * S := Nat.mul_pos (Nat.pow_pos (by omega)) hS
        have hle : S ≤ 2 ^ (a.length - (x :: b).length + 3) * S := Nat.le_mul_of_pos_left _ (Nat.pow_pos (by omega))
        have hpow : ∀ k, k ≤ 4 * ((x :: b).length - 2) → (2 ^ (a.length - (x :: b).length + 3) * S) * 2 ^ k ≤ B := fun k hk => by
          refine Nat.le_trans ?_ hSB2
          rw [Nat.mul_comm (2 ^ _) S, Nat.mul_assoc, ← Nat.pow_add]
          exact Nat.mul_le_mul_left _ (Nat.pow_le_pow_right (by omega) (by omega))
        refine euc f (x :: b) (remL a (x :: b)) (2 ^ (a.length - (x :: b).length + 3) * S) B (by omega) R1 (by omega) hS' hlb' R.last (hsb.mono hle) (R.sz.mono hrb) ?_ (fun h => ?_) hB6
        · have := hpow 0 (by omega); simpa using this
        · exact hpow _ (by omega)
    refine ⟨⟨hlb', hane, h5, by omega, hsa.mono (by omega), hsb.mono (by omega), hrec.ok⟩, ?_, ?_, ?_, ?_⟩
    · rw [simGo_succ _ _ _ (by simp)]; exact hrec.ne
    · rw [simGo_succ _ _ _ (by simp)]; have := hrec.len; omega
    · rw [simGo_succ _ _ _ (by simp)]; exact hrec.sz
    · rw [simGo_succ _ _ _ (by simp)]; exact hrec.last
end Go.Proofs.YtldokelpolbnnaaGreatDoor
end
section
set_option linter.unusedVariables false
set_option linter.unusedSimpArgs false
namespace Go.Proofs.YtldokelpolbnnaaGreatDoor
theorem der4 (a b c d e : Rat) : derL [a, b, c, d, e] = [b, c * 2, d * 3, e * 4] := by simp [derL, derGo, gR]
theorem der_facts {p : List Rat} (h2 : 2 ≤ p.length) (h5 : p.length ≤ 5) (hl : gR p (p.length - 1) ≠ 0) (hs : SzL p 1) : (derL p).length = p.length - 1 ∧ gR (derL p) ((derL p).length - 1) ≠ 0 ∧ SzL (derL p) 2 := by
  have s2 : Sz 2 1 := sz_one (z := 2) (by decide)
  have s3 : Sz 3 1 := sz_one (z := 3) (by decide)
  have s4 : Sz 4 1 := sz_one (z := 4) (by decide)
  match p, h2, h5 with
  | [a, b], _, _ =>
    rw [der1]
    refine ⟨rfl, by simpa [gR] using hl, fun q hq => ?_⟩
    simp at hq; subst hq; exact (hs _ (by simp)).mono (by omega)
  | [a, b, c], _, _ =>
    rw [der2]
    have hc : c ≠ 0 := by simpa [gR] using hl
    refine ⟨rfl, by simp [gR]; grind, fun q hq => ?_⟩
    simp at hq
    rcases hq with rfl | rfl
    · exact (hs _ (by simp)).mono (by omega)
    · exact sz_mul2 (hs _ (by simp)) s2
  | [a, b, c, d], _, _ =>
    rw [der3]
    have hc : d ≠ 0 := by simpa [gR] using hl
    refine ⟨rfl, by simp [gR]; grind, fun q hq => ?_⟩
    simp at hq
    rcases hq with rfl | rfl | rfl
    · exact (hs _ (by simp)).mono (by omega)
    · exact sz_mul2 (hs _ (by simp)) s2
    · exact sz_mul2 (hs _ (by simp)) s3
  | [a, b, c, d, e], _, _ =>
    rw [der4]
    have hc : e ≠ 0 := by simpa [gR] using hl
    refine ⟨rfl, by simp [gR]; grind, fun q hq => ?_⟩
    simp at hq
    rcases hq with rfl | rfl | rfl | rfl
    · exact (hs _ (by simp)).mono (by omega)
    · exact sz_mul2 (hs _ (by simp)) s2
    · exact sz_mul2 (hs _ (by simp)) s3
    · exact sz_mul2 (hs _ (by simp)) s4
structure SimF (p : List Rat) : Prop where
  simp' : SimP 6 p
  ne : simpL 6 p ≠ []
  len : (simpL 6 p).length ≤ 5
  last : gR (simpL 6 p) ((simpL 6 p).length - 1) ≠ 0
  sz : SzL (simpL 6 p) 400000
theorem sim_facts {p : List Rat} (h2 : 2 ≤ p.length) (h5 : p.length ≤ 5) (hl : gR p (p.length - 1) ≠ 0) (hs : SzL p 1) : SimF p := by
  obtain ⟨d1, d2, d3⟩ := der_facts h2 h5 hl hs
  have hpne : p ≠ [] := by intro e; rw [e] at h2; simp at h2
  have E := euc 6 p (derL p) 2 8192 (by omega) (by omega) h5 (by omega) hl (fun _ => d2) (hs.mono (by omega)) d3 (by omega) (fun h => by
    have : 2 ^ (p.length - (derL p).length + 3 + 4 * ((derL p).length - 2)) ≤ 2 ^ 12 := Nat.pow_le_pow_right (by omega) (by omega)
    exact Nat.le_trans (Nat.mul_le_mul_left 2 this) (by decide)) (by omega)
  have hg := E.ne
  have hgl := E.len
  have hgs := E.sz
  have hglast := E.last
  have hsim : SimP 6 p := ⟨E.ok, hpne, h5, hs.mono (by omega), hg, by omega, hgs.mono (by omega), hglast⟩
  have e : simpL 6 p = quoL p (simGo 6 p (derL p)) := rfl
  generalize simGo 6 p (derL p) = g at *
  have hgp := List.length_pos_iff.2 hg
  obtain ⟨m, hm⟩ : ∃ m, p.length + 1 - g.length = m + 1 := ⟨p.length - g.length, by omega⟩
  have D := divGo_facts hg hglast hgs (m + 1) 0 (List.replicate (m + 1) 0) p (by omega) (by simp) (show SzL p (rb 8192 0) from hs.mono (by show 1 ≤ 8192; omega))
  have hq : quoL p g = (divGo g (m + 1) (List.replicate (m + 1) 0) p).1 := by unfold quoL divL; rw [hm]
  have hlen : (quoL p g).length = m + 1 := by rw [hq, D.lq]; simp
  have htop : gR (quoL p g) m ≠ 0 := by
    rw [hq, divGo]
    have D2 := divGo_facts hg hglast hgs m 1 ((List.replicate (m + 1) 0).set m (gR p (m + g.length - 1) / gR g (g.length - 1))) (subGo g (gR p (m + g.length - 1) / gR g (g.length - 1)) m g.length 0 p) (by rw [subGo_len]; omega) (by simp) (szL_of fun j hj => by
      rw [subGo_len] at hj
      rw [subGo_get _ _ _ _ _ _ _ (by omega)]
      have hF : Sz (gR p (m + g.length - 1) / gR g (g.length - 1)) (1 + 8192) := sz_div (hs.at (by omega)) (hgs.at (by omega)) hglast
      split
      · exact (sz_sub2 (hs.at hj) (sz_mul2 hF (hgs.at (i := j - m) (by omega)))).mono (by show _ ≤ 8192 + (8192 + 8192 + 8192) + 1; omega)
      · exact (hs.at hj).mono (by show 1 ≤ 8192 + (8192 + 8192 + 8192) + 1; omega))
    rw [D2.qtop m (Nat.le_refl _), gR_set (by simp), if_pos rfl, show m + g.length - 1 = p.length - 1 by omega]
    intro h0
    have h1 : gR p (p.length - 1) = gR p (p.length - 1) / gR g (g.length - 1) * gR g (g.length - 1) := by
      generalize gR g (g.length - 1) = y at *
      generalize gR p (p.length - 1) = z at *
      grind
    rw [h0] at h1
    exact hl (by rw [h1]; grind)
  refine ⟨hsim, ?_, ?_, ?_, ?_⟩
  · rw [e]; intro h; rw [h] at hlen; simp at hlen
  · rw [e, hlen]; omega
  · rw [e, hlen]; exact htop
  · rw [e]
    by_cases hg1 : g.length = 1
    · obtain ⟨k, rfl⟩ := List.length_eq_one_iff.1 hg1
      have hk : k ≠ 0 := by simpa [gR] using hglast
      rw [(div_const hk p h5).1]
      intro q hq
      obtain ⟨x, hx, rfl⟩ := List.mem_map.1 hq
      exact (sz_div (hs x hx) (hgs k (by simp)) hk).mono (by omega)
    · refine szL_of fun j hj => ?_
      rw [hlen] at hj
      rw [hq]
      refine (D.qsz j hj).mono ?_
      have h4 : rb 8192 (0 + (m + 1)) ≤ rb 8192 4 := rb_up _ (by omega)
      have h5' : rb 8192 4 + 8192 ≤ 400000 := by decide
      omega
def P2 (o : Rat) : Prop := o = 1 ∨ o = 2 ∨ o = 4 ∨ o = 8 ∨ o = 16
theorem P2.small {o : Rat} (h : P2 o) : smallB o = true := by rcases h with rfl | rfl | rfl | rfl | rfl <;> decide
theorem dbl16 (f : Nat) {s : Rat} (hs : s ≤ 12) : dblGo f 16 s = 16 ∧ dblB f 16 s = true := by
  have h1 : ¬ (16 : Rat) < s := by grind
  have h2 : smallB 16 = true := by decide
  cases f with
  | zero => exact ⟨rfl, by simp [dblB, h1, h2]⟩
  | succ f => exact ⟨by rw [dblGo, if_neg h1], by simp [dblB, h1, h2]⟩
theorem dbl_step (f : Nat) {o s : Rat} (hsm : smallB o = true) (h : P2 (dblGo f (o + o) s) ∧ s ≤ dblGo f (o + o) s ∧ o + o ≤ dblGo f (o + o) s ∧ dblB f (o + o) s = true) (hp : P2 o) (ho : 0 ≤ o) : P2 (dblGo (f + 1) o s) ∧ s ≤ dblGo (f + 1) o s ∧ o ≤ dblGo (f + 1) o s ∧ dblB (f + 1) o s = true := by
  rw [dblGo]
  by_cases hlt : o < s
  · rw [if_pos hlt]
    exact ⟨h.1, h.2.1, by have := h.2.2.1; grind, by simp [dblB, hsm, h.2.2.2]⟩
  · rw [if_neg hlt]
    exact ⟨hp, by grind, by grind, by simp [dblB, hsm, hlt]⟩
theorem dbl_all (f : Nat) {o s : Rat} (hp : P2 o) (hs : s ≤ 12) : P2 (dblGo (f + 5) o s) ∧ s ≤ dblGo (f + 5) o s ∧ o ≤ dblGo (f + 5) o s ∧ dblB (f + 5) o s = true := by
  have a16 : ∀ g, P2 (dblGo g 16 s) ∧ s ≤ dblGo g 16 s ∧ (16 : Rat) ≤ dblGo g 16 s ∧ dblB g 16 s = true := fun g => by
    obtain ⟨h1, h2⟩ := dbl16 g hs
    rw [h1]; exact ⟨by simp [P2], by grind, by grind, h2⟩
  have a8 : ∀ g, P2 (dblGo (g + 1) 8 s) ∧ s ≤ dblGo (g + 1) 8 s ∧ (8 : Rat) ≤ dblGo (g + 1) 8 s ∧ dblB (g + 1) 8 s = true := fun g =>
    dbl_step g (by decide) (by rw [show (8 : Rat) + 8 = 16 by grind]; exact a16 g) (by simp [P2]) (by decide)
  have a4 : ∀ g, P2 (dblGo (g + 2) 4 s) ∧ s ≤ dblGo (g + 2) 4 s ∧ (4 : Rat) ≤ dblGo (g + 2) 4 s ∧ dblB (g + 2) 4 s = true := fun g =>
    dbl_step (g + 1) (by decide) (by rw [show (4 : Rat) + 4 = 8 by grind]; exact a8 g) (by simp [P2]) (by decide)
  have a2 : ∀ g, P2 (dblGo (g + 3) 2 s) ∧ s ≤ dblGo (g + 3) 2 s ∧ (2 : Rat) ≤ dblGo (g + 3) 2 s ∧ dblB (g + 3) 2 s = true := fun g =>
    dbl_step (g + 2) (by decide) (by rw [show (2 : Rat) + 2 = 4 by grind]; exact a4 g) (by simp [P2]) (by decide)
  have a1 : ∀ g, P2 (dblGo (g + 4) 1 s) ∧ s ≤ dblGo (g + 4) 1 s ∧ (1 : Rat) ≤ dblGo (g + 4) 1 s ∧ dblB (g + 4) 1 s = true := fun g =>
    dbl_step (g + 3) (by decide) (by rw [show (1 : Rat) + 1 = 2 by grind]; exact a2 g) (by simp [P2]) (by decide)
  rcases hp with rfl | rfl | rfl | rfl | rfl
  · exact a1 (f + 1)
  · exact a2 (f + 2)
  · exact a4 (f + 3)
  · exact a8 (f + 4)
  · exact a16 (f + 5)
theorem bnd_all {A : List (List Rat)} (hs : ∀ i, i < A.length → asumGo (gM A i) (gM A i).length 0 0 ≤ 12) : ∀ (f i : Nat) (o : Rat), i + f = A.length → P2 o → P2 (bndGo 5 A f i o) ∧ o ≤ bndGo 5 A f i o ∧ bndB 5 A f i o = true ∧ ∀ j, i ≤ j → j < A.length → asumGo (gM A j) (gM A j).length 0 0 ≤ bndGo 5 A f i o
  | 0, i, o, hi, hp => ⟨hp, by rw [bndGo]; grind, by rw [bndB]; exact hp.small, fun j h1 h2 => by omega⟩
  | f + 1, i, o, hi, hp => by
    obtain ⟨d1, d2, d3, d4⟩ := dbl_all 0 hp (hs i (by omega))
    obtain ⟨b1, b2, b3, b4⟩ := bnd_all hs f (i + 1) _ (by omega) d1
    rw [bndGo, bndB]
    refine ⟨b1, Rat.le_trans d3 b2, by rw [d4, b3]; rfl, fun j h1 h2 => ?_⟩
    by_cases e : j = i
    · rw [e]; exact Rat.le_trans d2 b2
    · exact b4 j (by omega) h2
theorem P2.dy {o : Rat} (h : P2 o) : Dy 0 (o + 1) ∧ Dy 0 (-(o + 1)) := by
  rcases h with rfl | rfl | rfl | rfl | rfl
  · exact ⟨⟨2, by decide +kernel, by decide⟩, ⟨-2, by decide +kernel, by decide⟩⟩
  · exact ⟨⟨3, by decide +kernel, by decide⟩, ⟨-3, by decide +kernel, by decide⟩⟩
  · exact ⟨⟨5, by decide +kernel, by decide⟩, ⟨-5, by decide +kernel, by decide⟩⟩
  · exact ⟨⟨9, by decide +kernel, by decide⟩, ⟨-9, by decide +kernel, by decide⟩⟩
  · exact ⟨⟨17, by decide +kernel, by decide⟩, ⟨-17, by decide +kernel, by decide⟩⟩
theorem In.abs {N : Nat} {q : Rat} (h : In N q) : absR q ≤ (N : Rat) := by
  obtain ⟨z, rfl, hz⟩ := h
  have h1 : ((z : Int) : Rat) ≤ ((N : Int) : Rat) := Rat.intCast_le_intCast.2 (by omega)
  have h2 : ((-z : Int) : Rat) ≤ ((N : Int) : Rat) := Rat.intCast_le_intCast.2 (by omega)
  rw [Rat.intCast_neg] at h2
  have h3 : ((N : Int) : Rat) = (N : Rat) := rfl
  rw [h3] at h1 h2
  unfold absR
  split
  · exact h2
  · exact h1
theorem asum_le (r : List Rat) (h : ∀ q ∈ r, absR q ≤ 3) : ∀ (f i : Nat) (s : Rat), i + f = r.length → asumGo r f i s ≤ s + 3 * (f : Rat)
  | 0, i, s, hi => by rw [asumGo]; grind
  | f + 1, i, s, hi => by
    rw [asumGo]
    have h1 := asum_le r h f (i + 1) (s + absR (gR r i)) (by omega)
    have h2 : absR (gR r i) ≤ 3 := h _ (gR_mem (by omega))
    have h3 : ((f + 1 : Nat) : Rat) = (f : Rat) + 1 := by rw [Rat.natCast_add]; rfl
    rw [h3]; grind
end Go.Proofs.YtldokelpolbnnaaGreatDoor
end
section
set_option linter.unusedVariables false
set_option linter.unusedSimpArgs false
namespace Go.Proofs.YtldokelpolbnnaaGreatDoor
theorem chg_len : ∀ (l : List Rat) (s : Int), chg s l ≤ l.length
  | [], s => Nat.le_refl _
  | q :: l, s => by
    rw [chg_cons, List.length_cons]
    have h1 := chg_len l s
    have h2 := chg_len l (-s)
    split <;> omega
theorem var_len : ∀ l : List Rat, var l ≤ l.length
  | [] => Nat.le_refl _
  | q :: l => by
    rw [var_cons, List.length_cons]
    split
    · have := var_len l; omega
    · have := chg_len l (sg q); omega
theorem shiftL_len (x : Rat) (p : List Rat) : (shiftL x p).length = p.length := shiftGo_len x _ _ p
theorem within_le (p : List Rat) (a b : Rat) : withinL p a b ≤ p.length := by
  rw [within_var]
  have := var_len (shiftL a p)
  rw [shiftL_len] at this
  omega
structure SpecF (A : List (List Rat)) (n : Nat) : Prop where
  sim : SimF (charL A)
  fine : Fine (charL A) (simpL 6 (charL A))
  all : withinL (charL A) (-(bndL 5 A + 1)) (bndL 5 A + 1) = (n : Int)
  bb : bndB 5 A A.length 0 1 = true
  bs : smallB (bndL 5 A) = true
  dp : Dy 0 (bndL 5 A + 1)
  dn : Dy 0 (-(bndL 5 A + 1))
  le : -(bndL 5 A + 1) ≤ bndL 5 A + 1
theorem spec_run {A : List (List Rat)} {n : Nat} (h : SpecF A n) (H : Nat) : ∃ N, N ≤ 100000 ∧ specR (charL A) (simpL 6 (charL A)) H N [(-(bndL 5 A + 1), bndL 5 A + 1, 0)] [] = some (treeL (charL A) (simpL 6 (charL A)) H 60 (-(bndL 5 A + 1)) (bndL 5 A + 1) 0) := by
  obtain ⟨N, hN, e⟩ := spec_tree (all := charL A) (h := H) h.fine.ls 60 _ _ 0 rfl h.dn h.dp h.le [] [] 1 (treeL (charL A) (simpL 6 (charL A)) H 60 (-(bndL 5 A + 1)) (bndL 5 A + 1) 0) (by
    cases treeL (charL A) (simpL 6 (charL A)) H 60 (-(bndL 5 A + 1)) (bndL 5 A + 1) 0 with
    | none => rfl
    | some l => simp [specR])
  refine ⟨N, ?_, e⟩
  have h1 := within_le (simpL 6 (charL A)) (-(bndL 5 A + 1)) (bndL 5 A + 1)
  have h2 := h.fine.ls
  omega
theorem asum_row {A : List (List Rat)} {n : Nat} (hl : A.length = n) (h4 : n ≤ 4) (hT : ThinOK A n) : ∀ i, i < A.length → asumGo (gM A i) (gM A i).length 0 0 ≤ 12 := fun i hi => by
  obtain ⟨h1, h2⟩ := hT i hi
  have h3 := asum_le (gM A i) (fun q hq => (h2 q hq).in.abs) (gM A i).length 0 0 (by omega)
  rw [h1] at h3 ⊢
  have : n = 0 ∨ n = 1 ∨ n = 2 ∨ n = 3 ∨ n = 4 := by omega
  rcases this with rfl | rfl | rfl | rfl | rfl <;> grind
theorem bnd_facts {A : List (List Rat)} {n : Nat} (hl : A.length = n) (h4 : n ≤ 4) (hT : ThinOK A n) : P2 (bndL 5 A) ∧ bndB 5 A A.length 0 1 = true ∧ ∀ j, j < A.length → asumGo (gM A j) (gM A j).length 0 0 ≤ bndL 5 A := by
  obtain ⟨b1, b2, b3, b4⟩ := bnd_all (asum_row hl h4 hT) A.length 0 1 (by omega) (.inl rfl)
  exact ⟨b1, b3, fun j hj => b4 j (by omega) hj⟩
theorem P2.pos {o : Rat} (h : P2 o) : -(o + 1) ≤ o + 1 := by rcases h with rfl | rfl | rfl | rfl | rfl <;> grind
theorem specF3 {A : List (List Rat)} {n : Nat} (hl : A.length = n) (h1 : 1 ≤ n) (h3 : n ≤ 3) (hT : ThinOK A n) (hs : ∀ i j, j < i → i < n → gR (gM A i) j = gR (gM A j) i) : SpecF A n := by
  have hP := prod_all hl h1 (by omega) hT hs
  obtain ⟨b1, b2, b3⟩ := bnd_facts hl (by omega) hT
  obtain ⟨d1, d2⟩ := b1.dy
  have hcl : (charL A).length = n + 1 := by rw [charL_length, hl]
  have hsim := sim_facts (p := charL A) (by omega) (by omega) (by rw [hcl, Nat.add_sub_cancel, hP.top]; decide) hP.sz
  have hq := thin_sq hl hT
  have hb : ∀ j, j < n → asumGo (gM A j) (gM A j).length 0 0 < bndL 5 A + 1 := fun j hj => by have := b3 j (by omega); grind
  have key : Cls (charL A) (simpL 6 (charL A)) ∧ withinL (charL A) (-(bndL 5 A + 1)) (bndL 5 A + 1) = (n : Int) := by
    clear hsim b3
    generalize bndL 5 A + 1 = E at *
    match n, h1, h3 with
    | 1, _, _ =>
      obtain ⟨a, rfl⟩ := sq1 hq
      refine ⟨by rw [char1]; exact cls1 _ 5, all1 ?_⟩
      have := hb 0 (by omega); simp [gM, asumGo, gR] at this; grind
    | 2, _, _ =>
      obtain ⟨a, b, c, d, rfl⟩ := sq2 hq
      obtain rfl : c = b := hs 1 0 (by omega) (by omega)
      refine ⟨by rw [char2]; exact cls2 _ _ 4, all2 ?_ ?_⟩
      · have := hb 0 (by omega); simp [gM, asumGo, gR] at this; grind
      · have := hb 1 (by omega); simp [gM, asumGo, gR] at this; grind
    | 3, _, _ =>
      obtain ⟨a, b, c, d, e, f, g, h, i, rfl⟩ := sq3 hq
      obtain rfl : d = b := hs 1 0 (by omega) (by omega)
      obtain rfl : g = c := hs 2 0 (by omega) (by omega)
      obtain rfl : h = f := hs 2 1 (by omega) (by omega)
      refine ⟨by rw [char3]; exact cls3 _ _ _ 3, all3 ?_ ?_ ?_⟩
      · have := hb 0 (by omega); simp [gM, asumGo, gR] at this; grind
      · have := hb 1 (by omega); simp [gM, asumGo, gR] at this; grind
      · have := hb 2 (by omega); simp [gM, asumGo, gR] at this; grind
  exact ⟨hsim, key.1.fine (by omega) (by omega), key.2, b2, b1.small, d1, d2, b1.pos⟩
end Go.Proofs.YtldokelpolbnnaaGreatDoor
end
section
set_option linter.unusedVariables false
set_option linter.unusedSimpArgs false
namespace Go.Proofs.YtldokelpolbnnaaGreatDoor
theorem absR_of_nonneg {q : Rat} (h : 0 ≤ q) : absR q = q := by unfold absR; rw [if_neg (by grind)]
theorem absR_of_neg {q : Rat} (h : q < 0) : absR q = -q := by unfold absR; rw [if_pos h]
theorem absR_mul (a b : Rat) : absR (a * b) = absR a * absR b := by
  by_cases ha : a < 0
  · by_cases hb : b < 0
    · have := Rat.mul_pos (show 0 < -a by grind) (show 0 < -b by grind)
      rw [absR_of_neg ha, absR_of_neg hb, absR_of_nonneg (by grind)]; grind
    · rw [absR_of_neg ha, absR_of_nonneg (show 0 ≤ b by grind)]
      by_cases hb0 : b = 0
      · rw [hb0, absR_of_nonneg (by grind)]; grind
      · have := mul_neg_of (show 0 < b by grind) ha
        rw [absR_of_neg (by grind)]; grind
  · rw [absR_of_nonneg (show 0 ≤ a by grind)]
    by_cases hb : b < 0
    · rw [absR_of_neg hb]
      by_cases ha0 : a = 0
      · rw [ha0, absR_of_nonneg (by grind)]; grind
      · have := mul_neg_of (show 0 < a by grind) hb
        rw [absR_of_neg this]; grind
    · have := nn_mul (show 0 ≤ a by grind) (show 0 ≤ b by grind)
      rw [absR_of_nonneg this, absR_of_nonneg (show 0 ≤ b by grind)]
theorem absR_sub (a b : Rat) : absR (a - b) ≤ absR a + absR b := by
  obtain ⟨a1, a2⟩ := absR_le a
  obtain ⟨b1, b2⟩ := absR_le b
  by_cases h : a - b < 0
  · rw [absR_of_neg h]; grind
  · rw [absR_of_nonneg (by grind)]; grind
theorem schur_row {x y a b c d e : Rat} (hx : absR a + absR b + absR c < x) (hy : absR a + absR d + absR e < y) : absR (x * d - a * b) + absR (x * e - a * c) < x * y - a * a := by
  have a0 := absR_nonneg a
  have b0 := absR_nonneg b
  have c0 := absR_nonneg c
  have d0 := absR_nonneg d
  have e0 := absR_nonneg e
  have h1 := absR_sub (x * d) (a * b)
  have h2 := absR_sub (x * e) (a * c)
  have x0 : 0 < x := by grind
  rw [absR_mul, absR_mul a b, absR_of_nonneg (show 0 ≤ x by grind)] at h1
  rw [absR_mul, absR_mul a c, absR_of_nonneg (show 0 ≤ x by grind)] at h2
  have h3 := absR_sq a
  have h4 : 0 < x * (y - absR a - absR d - absR e) := Rat.mul_pos x0 (by grind)
  have h5 : 0 ≤ absR a * (x - absR a - absR b - absR c) := nn_mul a0 (by grind)
  grind
def det4 (x y z w a b c d e f : Rat) : Rat :=
  x * (y * (z * w - f * f) - d * (d * w - f * e) + e * (d * f - z * e)) - a * (a * (z * w - f * f) - d * (b * w - f * c) + e * (b * f - z * c)) + b * (a * (d * w - f * e) - y * (b * w - f * c) + e * (b * e - d * c)) - c * (a * (d * f - z * e) - y * (b * f - z * c) + d * (b * e - d * c))
theorem dd4 {x y z w a b c d e f : Rat} (h1 : absR a + absR b + absR c < x) (h2 : absR a + absR d + absR e < y) (h3 : absR b + absR d + absR f < z) (h4 : absR c + absR e + absR f < w) : 0 < det4 x y z w a b c d e f := by
  have r1 := schur_row (x := x) (y := y) (a := a) (b := b) (c := c) (d := d) (e := e) h1 h2
  have r2 := schur_row (x := x) (y := z) (a := b) (b := a) (c := c) (d := d) (e := f) (by grind) (by grind)
  have r3 := schur_row (x := x) (y := w) (a := c) (b := a) (c := b) (d := e) (e := f) (by grind) (by grind)
  have x0 : 0 < x := by have := absR_nonneg a; have := absR_nonneg b; have := absR_nonneg c; grind
  have k := dd3 (x := x * y - a * a) (y := x * z - b * b) (z := x * w - c * c) (b := x * d - a * b) (c := x * e - a * c) (f := x * f - b * c) (by grind) (by
    rw [show b * a = a * b by grind] at r2; grind) (by
    rw [show c * a = a * c by grind, show c * b = b * c by grind] at r3; grind)
  have id : (x * y - a * a) * ((x * z - b * b) * (x * w - c * c) - (x * f - b * c) * (x * f - b * c)) - (x * d - a * b) * ((x * d - a * b) * (x * w - c * c) - (x * f - b * c) * (x * e - a * c)) + (x * e - a * c) * ((x * d - a * b) * (x * f - b * c) - (x * z - b * b) * (x * e - a * c)) = x * x * det4 x y z w a b c d e f := by
    unfold det4; grind
  rw [id] at k
  rcases sg_cases (det4 x y z w a b c d e f) with ⟨h, _⟩ | ⟨h, _⟩ | ⟨h, _⟩
  · have := mul_neg_of (Rat.mul_pos x0 x0) h; grind
  · rw [h] at k; grind
  · exact h
theorem varP5 {a b c d e : Rat} (ha : 0 < a) (hb : 0 < b) (hc : 0 < c) (hd : 0 < d) (he : 0 < e) : var [a, b, c, d, e] = 0 := by
  rw [var_nz _ (by grind)]; simp [chg_cons, sgp ha, sgp hb, sgp hc, sgp hd, sgp he, chg]
theorem varN5 {a b c d e : Rat} (ha : 0 < a) (hb : b < 0) (hc : 0 < c) (hd : d < 0) (he : 0 < e) : var [a, b, c, d, e] = 4 := by
  rw [var_nz _ (by grind)]; simp [chg_cons, sgp ha, sg_neg hb, sgp hc, sg_neg hd, sgp he, chg]
def c1f (x y z w a b c d e f : Rat) : Rat := (y * (z * w - f * f) - d * (d * w - f * e) + e * (d * f - z * e)) + (x * (z * w - f * f) - b * (b * w - f * c) + c * (b * f - z * c)) + (x * (y * w - e * e) - a * (a * w - e * c) + c * (a * e - y * c)) + (x * (y * z - d * d) - a * (a * z - d * b) + b * (a * d - y * b))
theorem c1_pos {x y z w a b c d e f : Rat} (h1 : absR a + absR b + absR c < x) (h2 : absR a + absR d + absR e < y) (h3 : absR b + absR d + absR f < z) (h4 : absR c + absR e + absR f < w) : 0 < c1f x y z w a b c d e f := by
  have a0 := absR_nonneg a
  have b0 := absR_nonneg b
  have c0 := absR_nonneg c
  have d0 := absR_nonneg d
  have e0 := absR_nonneg e
  have f0 := absR_nonneg f
  have p1 := dd3 (x := y) (y := z) (z := w) (b := d) (c := e) (f := f) (by grind) (by grind) (by grind)
  have p2 := dd3 (x := x) (y := z) (z := w) (b := b) (c := c) (f := f) (by grind) (by grind) (by grind)
  have p3 := dd3 (x := x) (y := y) (z := w) (b := a) (c := c) (f := e) (by grind) (by grind) (by grind)
  have p4 := dd3 (x := x) (y := y) (z := z) (b := a) (c := b) (f := d) (by grind) (by grind) (by grind)
  unfold c1f; grind
def c2f (x y z w a b c d e f : Rat) : Rat := (x * y - a * a) + (x * z - b * b) + (x * w - c * c) + (y * z - d * d) + (y * w - e * e) + (z * w - f * f)
theorem c2_pos {x y z w a b c d e f : Rat} (h1 : absR a + absR b + absR c < x) (h2 : absR a + absR d + absR e < y) (h3 : absR b + absR d + absR f < z) (h4 : absR c + absR e + absR f < w) : 0 < c2f x y z w a b c d e f := by
  have a0 := absR_nonneg a
  have b0 := absR_nonneg b
  have c0 := absR_nonneg c
  have d0 := absR_nonneg d
  have e0 := absR_nonneg e
  have f0 := absR_nonneg f
  have p1 := dd2 (x := x) (y := y) (b := a) (by grind) (by grind)
  have p2 := dd2 (x := x) (y := z) (b := b) (by grind) (by grind)
  have p3 := dd2 (x := x) (y := w) (b := c) (by grind) (by grind)
  have p4 := dd2 (x := y) (y := z) (b := d) (by grind) (by grind)
  have p5 := dd2 (x := y) (y := w) (b := e) (by grind) (by grind)
  have p6 := dd2 (x := z) (y := w) (b := f) (by grind) (by grind)
  unfold c2f; grind
theorem char4 (a b c d e f g h i j : Rat) : charL [[a, b, c, d], [b, e, f, g], [c, f, h, i], [d, g, i, j]] = [det4 a e h j b c d f g i, -(c1f a e h j b c d f g i), c2f a e h j b c d f g i, -a - e - h - j, 1] := by
  rw [char4_1, char4_2, char4_3, char4_4]
  simp only [List.cons.injEq, and_true]
  refine ⟨?_, ?_, ?_⟩
  · simp [dtm, gR, gM, det4]
  · unfold c1f; grind
  · unfold c2f; grind
theorem shift_char4 (E a b c d e f g h i j : Rat) : shiftL E (charL [[a, b, c, d], [b, e, f, g], [c, f, h, i], [d, g, i, j]]) = [det4 (E - a) (E - e) (E - h) (E - j) (-b) (-c) (-d) (-f) (-g) (-i), c1f (E - a) (E - e) (E - h) (E - j) (-b) (-c) (-d) (-f) (-g) (-i), c2f (E - a) (E - e) (E - h) (E - j) (-b) (-c) (-d) (-f) (-g) (-i), (E - a) + (E - e) + (E - h) + (E - j), 1] := by
  rw [char4, shift4]
  simp only [List.cons.injEq, and_true]
  refine ⟨?_, ?_, ?_, ?_⟩
  · unfold det4 c1f c2f; grind
  · unfold c1f c2f; grind
  · unfold c2f; grind
  · grind
theorem det4_neg (x y z w a b c d e f : Rat) : det4 (-x) (-y) (-z) (-w) a b c d e f = det4 x y z w (-a) (-b) (-c) (-d) (-e) (-f) := by unfold det4; grind
theorem c1f_neg (x y z w a b c d e f : Rat) : c1f (-x) (-y) (-z) (-w) a b c d e f = -(c1f x y z w (-a) (-b) (-c) (-d) (-e) (-f)) := by unfold c1f; grind
theorem c2f_neg (x y z w a b c d e f : Rat) : c2f (-x) (-y) (-z) (-w) a b c d e f = c2f x y z w (-a) (-b) (-c) (-d) (-e) (-f) := by unfold c2f; grind
theorem all4 {a b c d e f g h i j E : Rat} (h1 : absR a + absR b + absR c + absR d < E) (h2 : absR b + absR e + absR f + absR g < E) (h3 : absR c + absR f + absR h + absR i < E) (h4 : absR d + absR g + absR i + absR j < E) :
    var (shiftL E (charL [[a, b, c, d], [b, e, f, g], [c, f, h, i], [d, g, i, j]])) = 0 ∧ var (shiftL (-E) (charL [[a, b, c, d], [b, e, f, g], [c, f, h, i], [d, g, i, j]])) = 4 := by
  obtain ⟨a1, a2⟩ := absR_le a
  obtain ⟨e1, e2⟩ := absR_le e
  obtain ⟨i1, i2⟩ := absR_le h
  obtain ⟨j1, j2⟩ := absR_le j
  have b0 := absR_nonneg b
  have c0 := absR_nonneg c
  have d0 := absR_nonneg d
  have f0 := absR_nonneg f
  have g0 := absR_nonneg g
  have i0 := absR_nonneg i
  constructor
  · rw [shift_char4]
    refine varP5 (dd4 ?_ ?_ ?_ ?_) (c1_pos ?_ ?_ ?_ ?_) (c2_pos ?_ ?_ ?_ ?_) (by grind) (by decide) <;> simp only [absR_neg] <;> grind
  · rw [shift_char4, show -E - a = -(E + a) by grind, show -E - e = -(E + e) by grind, show -E - h = -(E + h) by grind, show -E - j = -(E + j) by grind, det4_neg, c1f_neg, c2f_neg]
    simp only [Rat.neg_neg]
    have q := c1_pos (x := E + a) (y := E + e) (z := E + h) (w := E + j) (a := b) (b := c) (c := d) (d := f) (e := g) (f := i) (by grind) (by grind) (by grind) (by grind)
    refine varN5 (dd4 ?_ ?_ ?_ ?_) (by grind) (c2_pos ?_ ?_ ?_ ?_) (by grind) (by decide) <;> grind
end Go.Proofs.YtldokelpolbnnaaGreatDoor
end
section
set_option linter.unusedVariables false
set_option linter.unusedSimpArgs false
namespace Go.Proofs.YtldokelpolbnnaaGreatDoor
def Cls4 (p s : List Rat) : Prop :=
  (∃ k : Rat, k ≠ 0 ∧ s = p.map (· / k)) ∨
  (∃ (d d' : List Rat) (k : Rat), k ≠ 0 ∧ p = prodL d ∧ s = (prodL d').map (· / k) ∧ d'.length ≤ 3 ∧ ∀ x, x ∈ d ↔ x ∈ d') ∨
  (∃ x q0 q1 k : Rat, k ≠ 0 ∧ p = mulL x 0 (mulL x 0 [q0, q1, 1]) ∧ s = (mulL x 0 [q0, q1, 1]).map (· / k)) ∨
  (∃ v u k : Rat, k ≠ 0 ∧ p = [v * v, 2 * u * v, u * u + 2 * v, 2 * u, 1] ∧ s = [v, u, 1].map (· / k))
theorem rem31 (c0 c1 c2 c3 d0 d1 : Rat) (h : d1 ≠ 0) : remL [c0, c1, c2, c3] [d0, d1] = if c0 - (c1 - (c2 - c3 / d1 * d0) / d1 * d0) / d1 * d0 = 0 then [] else [c0 - (c1 - (c2 - c3 / d1 * d0) / d1 * d0) / d1 * d0] := by
  have e : ∀ a : Rat, a - a / d1 * d1 = 0 := fun a => by grind
  have key : divL [c0, c1, c2, c3] [d0, d1] = ([(c1 - (c2 - c3 / d1 * d0) / d1 * d0) / d1, (c2 - c3 / d1 * d0) / d1, c3 / d1], [c0 - (c1 - (c2 - c3 / d1 * d0) / d1 * d0) / d1 * d0, 0, 0, 0]) := by
    simp [divL, divGo, subGo, gR, e]
  unfold remL
  rw [key]
  simp only [trimL, trimGo, gR, List.length_cons, List.length_nil]
  simp only [List.getD_cons_succ, List.getD_cons_zero, if_true]
  split <;> rfl
theorem quo41 (c0 c1 c2 c3 c4 d0 d1 : Rat) (h : d1 ≠ 0) : quoL [c0, c1, c2, c3, c4] [d0, d1] = [(c1 - (c2 - (c3 - c4 / d1 * d0) / d1 * d0) / d1 * d0) / d1, (c2 - (c3 - c4 / d1 * d0) / d1 * d0) / d1, (c3 - c4 / d1 * d0) / d1, c4 / d1] := by
  have e : ∀ a : Rat, a - a / d1 * d1 = 0 := fun a => by grind
  unfold quoL
  simp [divL, divGo, subGo, gR, e]
theorem quo42 (c0 c1 c2 c3 c4 d0 d1 d2 : Rat) (h : d2 ≠ 0) : quoL [c0, c1, c2, c3, c4] [d0, d1, d2] = [(c2 - c4 / d2 * d0 - (c3 - c4 / d2 * d1) / d2 * d1) / d2, (c3 - c4 / d2 * d1) / d2, c4 / d2] := by
  have e : ∀ a : Rat, a - a / d2 * d2 = 0 := fun a => by grind
  unfold quoL
  simp [divL, divGo, subGo, gR, e]
theorem div43 (c0 c1 c2 c3 c4 d0 d1 d2 d3 : Rat) (h : d3 ≠ 0) : quoL [c0, c1, c2, c3, c4] [d0, d1, d2, d3] = [(c3 - c4 / d3 * d2) / d3, c4 / d3] ∧ remL [c0, c1, c2, c3, c4] [d0, d1, d2, d3] = trimL [c0 - (c3 - c4 / d3 * d2) / d3 * d0, c1 - c4 / d3 * d0 - (c3 - c4 / d3 * d2) / d3 * d1, c2 - c4 / d3 * d1 - (c3 - c4 / d3 * d2) / d3 * d2, 0, 0] := by
  have e : ∀ a : Rat, a - a / d3 * d3 = 0 := fun a => by grind
  have key : divL [c0, c1, c2, c3, c4] [d0, d1, d2, d3] = ([(c3 - c4 / d3 * d2) / d3, c4 / d3], [c0 - (c3 - c4 / d3 * d2) / d3 * d0, c1 - c4 / d3 * d0 - (c3 - c4 / d3 * d2) / d3 * d1, c2 - c4 / d3 * d1 - (c3 - c4 / d3 * d2) / d3 * d2, 0, 0]) := by
    simp [divL, divGo, subGo, gR, e]
  exact ⟨by unfold quoL; rw [key], by unfold remL; rw [key]⟩
theorem trim5 (r0 r1 r2 : Rat) : trimL [r0, r1, r2, 0, 0] = if r2 = 0 then (if r1 = 0 then (if r0 = 0 then [] else [r0]) else [r0, r1]) else [r0, r1, r2] := by
  simp only [trimL, trimGo, gR, List.length_cons, List.length_nil]
  simp only [List.getD_cons_succ, List.getD_cons_zero, if_true]
  by_cases e2 : r2 = 0
  · rw [if_pos e2, if_pos e2]
    by_cases e1 : r1 = 0
    · rw [if_pos e1, if_pos e1]
      by_cases e0 : r0 = 0
      · rw [if_pos e0, if_pos e0]; rfl
      · rw [if_neg e0, if_neg e0]; rfl
    · rw [if_neg e1, if_neg e1]; rfl
  · rw [if_neg e2, if_neg e2]; rfl
theorem trim4 (r0 r1 : Rat) : trimL [r0, r1, 0, 0] = if r1 = 0 then (if r0 = 0 then [] else [r0]) else [r0, r1] := by
  simp only [trimL, trimGo, gR, List.length_cons, List.length_nil]
  simp only [List.getD_cons_succ, List.getD_cons_zero, if_true]
  by_cases e1 : r1 = 0
  · rw [if_pos e1, if_pos e1]
    by_cases e0 : r0 = 0
    · rw [if_pos e0, if_pos e0]; rfl
    · rw [if_neg e0, if_neg e0]; rfl
  · rw [if_neg e1, if_neg e1]; rfl
theorem double_root {c0 c1 c2 c3 g0 g1 x : Rat} (hg : g1 ≠ 0) (hx : g0 = -(x * g1)) (hp : c0 + c1 * x + c2 * x * x + c3 * x * x * x + x * x * x * x = 0) (hd : c1 + 2 * c2 * x + 3 * c3 * x * x + 4 * x * x * x = 0) :
    Cls4 [c0, c1, c2, c3, 1] (quoL [c0, c1, c2, c3, 1] [g0, g1]) := by
  refine .inr (.inr (.inl ⟨x, c2 + 2 * c3 * x + 3 * x * x, c3 + 2 * x, g1, hg, ?_, ?_⟩))
  · simp [mulL]; grind
  · rw [quo41 _ _ _ _ _ _ _ hg]
    have e1 : (c3 - 1 / g1 * g0) / g1 = (c3 + x) / g1 := by rw [hx]; congr 1; grind
    have e2 : (c2 - (c3 + x) / g1 * g0) / g1 = (c2 + (c3 + x) * x) / g1 := by rw [hx]; congr 1; grind
    have e3 : (c1 - (c2 + (c3 + x) * x) / g1 * g0) / g1 = (c1 + (c2 + (c3 + x) * x) * x) / g1 := by rw [hx]; congr 1; grind
    rw [e1, e2, e3]
    simp [mulL]
    refine ⟨?_, ?_, ?_⟩ <;> congr 1 <;> grind
theorem fr_lin {k : Rat} (hk : k ≠ 0) (a b x : Rat) : (a - b / k * -(x * k)) / k * -(x * k) = -((a + b * x) * x) := by grind
theorem two_two {c0 c1 c2 c3 u v a b β k : Rat} (hk : k ≠ 0) (h3 : c3 = u + a) (h2 : c2 = v + u * a + b) (h1 : c1 = u * b + v * a) (h0 : c0 = v * b) (e3 : 3 * c3 = 4 * u + 4 * β) (e2 : 2 * c2 = 4 * v + 4 * u * β) (e1 : c1 = 4 * v * β) :
    Cls4 [c0, c1, c2, c3, 1] ([b, a, 1].map (· / k)) := by
  have hβ : 4 * β = 3 * a - u := by grind
  have hb : 2 * b = 2 * v + u * a - u * u := by grind
  have hD : (a - u) * (u * u - 4 * v) = 0 := by
    have q1 : u * b = 2 * v * a - u * v := by grind
    have q2 : u * (2 * b) = 2 * (2 * v * a - u * v) := by grind
    rw [hb] at q2
    grind
  rcases Rat.mul_eq_zero.1 hD with h | h
  · have ha : a = u := by grind
    subst ha
    have hbv : b = v := by grind
    subst hbv
    refine .inr (.inr (.inr ⟨b, a, k, hk, ?_, rfl⟩))
    rw [h3, h2, h1, h0]
    simp only [List.cons.injEq, and_true]
    refine ⟨?_, ?_, ?_, ?_⟩ <;> grind
  · have hv : v = u * u / 4 := by grind
    refine .inr (.inl ⟨[-u / 2, -u / 2, -u / 2, -a + u / 2], [-u / 2, -a + u / 2], k, hk, ?_, ?_, by simp, fun x => by simp⟩)
    · rw [h3, h2, h1, h0]
      simp [prodL, mulL]
      refine ⟨?_, ?_, ?_, ?_⟩ <;> grind
    · simp [prodL, mulL]
      refine ⟨?_, ?_⟩ <;> congr 1 <;> grind
theorem cls4 (c0 c1 c2 c3 : Rat) (f : Nat) : Cls4 [c0, c1, c2, c3, 1] (simpL (f + 4) [c0, c1, c2, c3, 1]) := by
  have const : ∀ k : Rat, k ≠ 0 → Cls4 [c0, c1, c2, c3, 1] (quoL [c0, c1, c2, c3, 1] [k]) := fun k hk => by
    rw [(div_const hk _ (by simp)).1]; exact .inl ⟨k, hk, rfl⟩
  unfold simpL
  rw [der4, simGo_succ _ _ _ (by simp)]
  obtain ⟨h1, h2⟩ := div43 c0 c1 c2 c3 1 c1 (c2 * 2) (c3 * 3) (1 * 4) (by grind)
  rw [h2]
  obtain ⟨r0, hr0⟩ : ∃ r0, r0 = c0 - (c3 - 1 / (1 * 4) * (c3 * 3)) / (1 * 4) * c1 := ⟨_, rfl⟩
  obtain ⟨r1, hr1⟩ : ∃ r1, r1 = c1 - 1 / (1 * 4) * c1 - (c3 - 1 / (1 * 4) * (c3 * 3)) / (1 * 4) * (c2 * 2) := ⟨_, rfl⟩
  obtain ⟨r2, hr2⟩ : ∃ r2, r2 = c2 - 1 / (1 * 4) * (c2 * 2) - (c3 - 1 / (1 * 4) * (c3 * 3)) / (1 * 4) * (c3 * 3) := ⟨_, rfl⟩
  rw [← hr0, ← hr1, ← hr2, trim5]
  have k0 : r0 = c0 - c3 / 16 * c1 := by grind
  have k1 : r1 = 3 / 4 * c1 - c3 / 8 * c2 := by grind
  have k2 : r2 = c2 / 2 - 3 / 16 * c3 * c3 := by grind
  clear hr0 hr1 hr2 h2
  have hval : ∀ x : Rat, c0 + c1 * x + c2 * x * x + c3 * x * x * x + x * x * x * x = (c1 + 2 * c2 * x + 3 * c3 * x * x + 4 * x * x * x) * (x / 4 + c3 / 16) + (r0 + r1 * x + r2 * x * x) := fun x => by rw [k0, k1, k2]; grind
  by_cases e2 : r2 = 0
  · rw [if_pos e2]
    by_cases e1 : r1 = 0
    · rw [if_pos e1]
      by_cases e0 : r0 = 0
      · rw [if_pos e0, simGo_nil, h1]
        have j2 : c2 = 3 / 8 * c3 * c3 := by grind
        have j1 : c1 = c3 * c3 * c3 / 16 := by grind
        have j0 : c0 = c3 * c3 * c3 * c3 / 256 := by grind
        refine .inr (.inl ⟨[-c3 / 4, -c3 / 4, -c3 / 4, -c3 / 4], [-c3 / 4], 4, by decide, ?_, ?_, by simp, fun x => by simp⟩)
        · rw [j0, j1, j2]; simp [prodL, mulL]; refine ⟨?_, ?_, ?_, ?_⟩ <;> grind
        · simp [prodL, mulL]; grind
      · rw [if_neg e0, simGo_const _ _ _ e0 (by simp)]; exact const _ e0
    · rw [if_neg e1, simGo_succ _ _ _ (by simp), rem31 _ _ _ _ _ _ e1]
      split
      · rename_i h0
        rw [simGo_nil]
        obtain ⟨x, hx⟩ : ∃ x, x = -r0 / r1 := ⟨_, rfl⟩
        have hx0 : r0 = -(x * r1) := by grind
        have hd : c1 + 2 * c2 * x + 3 * c3 * x * x + 4 * x * x * x = 0 := by
          rw [hx0] at h0
          have f1 : (c3 * 3 - 1 * 4 / r1 * -(x * r1)) / r1 * -(x * r1) = -((c3 * 3 + 4 * x) * x) := by grind
          rw [f1] at h0
          have f2 : (c2 * 2 - -((c3 * 3 + 4 * x) * x)) / r1 * -(x * r1) = -((c2 * 2 + (c3 * 3 + 4 * x) * x) * x) := by grind
          rw [f2] at h0
          grind
        refine double_root e1 hx0 ?_ hd
        rw [hval, hd, hx0, e2]; grind
      · rename_i h0
        rw [simGo_const _ _ _ h0 (by simp)]; exact const _ h0
  · rw [if_neg e2, simGo_succ _ _ _ (by simp)]
    obtain ⟨_, h4⟩ := div32 c1 (c2 * 2) (c3 * 3) (1 * 4) r0 r1 r2 e2
    rw [h4]
    obtain ⟨q0, hq0⟩ : ∃ q0, q0 = (c3 * 3 - 1 * 4 / r2 * r1) / r2 := ⟨_, rfl⟩
    obtain ⟨m0, hm0⟩ : ∃ m0, m0 = c1 - q0 * r0 := ⟨_, rfl⟩
    obtain ⟨m1, hm1⟩ : ∃ m1, m1 = c2 * 2 - 1 * 4 / r2 * r0 - q0 * r1 := ⟨_, rfl⟩
    rw [← hq0, ← hm0, ← hm1, trim4]
    have hval2 : ∀ x : Rat, c1 + 2 * c2 * x + 3 * c3 * x * x + 4 * x * x * x = (r0 + r1 * x + r2 * x * x) * (4 / r2 * x + q0) + (m0 + m1 * x) := fun x => by
      have hq : q0 * r2 = c3 * 3 - 4 / r2 * r1 := by rw [hq0]; grind
      have h44 : r2 * (4 / r2) = 4 := by grind
      have : (r0 + r1 * x + r2 * x * x) * (4 / r2 * x + q0) = q0 * r0 + (4 / r2 * r0 + q0 * r1) * x + (4 / r2 * r1 + q0 * r2) * x * x + (r2 * (4 / r2)) * x * x * x := by grind
      rw [this, hq, h44, hm0, hm1]; grind
    by_cases i1 : m1 = 0
    · rw [if_pos i1]
      by_cases i0 : m0 = 0
      · rw [if_pos i0, simGo_nil, quo42 _ _ _ _ _ _ _ _ e2]
        obtain ⟨u, hu⟩ : ∃ u, u = r1 / r2 := ⟨_, rfl⟩
        obtain ⟨v, hv⟩ : ∃ v, v = r0 / r2 := ⟨_, rfl⟩
        have hu' : r1 = u * r2 := by grind
        have hv' : r0 = v * r2 := by grind
        obtain ⟨β, hβ⟩ : ∃ β, β = q0 * r2 / 4 := ⟨_, rfl⟩
        have hq' : q0 * r2 = 4 * β := by grind
        have b3 : 3 * c3 = 4 * u + 4 * β := by
          have : q0 * r2 = c3 * 3 - 1 * 4 / r2 * r1 := by rw [hq0]; grind
          rw [hq', hu'] at this; grind
        have b2 : 2 * c2 = 4 * v + 4 * u * β := by
          rw [i1, hu', hv'] at hm1
          have t1 : 1 * 4 / r2 * (v * r2) = 4 * v := by grind
          have t2 : q0 * (u * r2) = u * (4 * β) := by rw [← hq']; grind
          rw [t1, t2] at hm1; grind
        have b1 : c1 = 4 * v * β := by
          rw [i0, hv'] at hm0
          have t2 : q0 * (v * r2) = v * (4 * β) := by rw [← hq']; grind
          rw [t2] at hm0; grind
        have hs1 : (c3 - 1 / r2 * r1) / r2 = (c3 - u) / r2 := by rw [hu']; congr 1; grind
        have hs0 : (c2 - 1 / r2 * r0 - (c3 - u) / r2 * r1) / r2 = (c2 - v - (c3 - u) * u) / r2 := by rw [hu', hv']; congr 1; grind
        rw [hs1, hs0]
        have e := two_two (c0 := c0) (c1 := c1) (c2 := c2) (c3 := c3) (u := u) (v := v) (a := c3 - u) (b := c2 - v - (c3 - u) * u) (β := β) (k := r2) e2 (by grind) (by grind) (by rw [hu'] at k1; rw [k2] at k1; grind) (by rw [hv'] at k0; rw [k2] at k0; grind) b3 b2 b1
        exact e
      · rw [if_neg i0, simGo_const _ _ _ i0 (by simp)]; exact const _ i0
    · rw [if_neg i1, simGo_succ _ _ _ (by simp)]
      obtain ⟨_, h5⟩ := div21 r0 r1 r2 m0 m1 i1
      rw [h5]
      split
      · rename_i h0
        rw [simGo_nil]
        obtain ⟨x, hx⟩ : ∃ x, x = -m0 / m1 := ⟨_, rfl⟩
        have hx0 : m0 = -(x * m1) := by grind
        have hr : r0 + r1 * x + r2 * x * x = 0 := by
          rw [hx0] at h0
          have f1 : (r1 - r2 / m1 * -(x * m1)) / m1 * -(x * m1) = -((r1 + r2 * x) * x) := fr_lin i1 _ _ _
          rw [f1] at h0; grind
        have hd : c1 + 2 * c2 * x + 3 * c3 * x * x + 4 * x * x * x = 0 := by rw [hval2, hr, hx0]; grind
        refine double_root i1 hx0 ?_ hd
        rw [hval, hd, hr]; grind
      · rename_i h0
        rw [simGo_const _ _ _ h0 (by simp)]; exact const _ h0
end Go.Proofs.YtldokelpolbnnaaGreatDoor
end
section
set_option linter.unusedVariables false
set_option linter.unusedSimpArgs false
namespace Go.Proofs.YtldokelpolbnnaaGreatDoor
theorem chg3 {b c d : Rat} (hd : 0 < d) (h : b < 0 ∨ c < 0) : chg 1 [b, c, d] = 2 := by
  rcases sg_cases b with ⟨b1, b2⟩ | ⟨b1, b2⟩ | ⟨b1, b2⟩ <;> rcases sg_cases c with ⟨c1, c2⟩ | ⟨c1, c2⟩ | ⟨c1, c2⟩ <;> first | (exfalso; grind) | simp [chg_cons, b2, c2, sgp hd, chg]
theorem chg4 {b c e d : Rat} (hd : 0 < d) (h : b < 0 ∨ c < 0 ∨ e < 0) : 2 ≤ chg 1 [b, c, e, d] := by
  rcases sg_cases b with ⟨b1, b2⟩ | ⟨b1, b2⟩ | ⟨b1, b2⟩ <;> rcases sg_cases c with ⟨c1, c2⟩ | ⟨c1, c2⟩ | ⟨c1, c2⟩ <;> rcases sg_cases e with ⟨e1, e2⟩ | ⟨e1, e2⟩ | ⟨e1, e2⟩ <;> first | (exfalso; grind) | simp [chg_cons, b2, c2, e2, sgp hd, chg]
theorem chgm_pos : ∀ {l : List Rat}, (∃ q ∈ l, 0 < q) → 1 ≤ chg (-1) l
  | [], h => by simp at h
  | q :: l, h => by
    rw [chg_cons]
    by_cases e : sg q = - -1
    · rw [if_pos e]; omega
    · rw [if_neg e]
      refine chgm_pos ?_
      obtain ⟨x, hx, hp⟩ := h
      rcases List.mem_cons.1 hx with rfl | hx
      · exact absurd (sgp hp) e
      · exact ⟨x, hx, hp⟩
theorem quad_exact {q0 q1 : Rat} (h : 4 * q0 ≤ q1 * q1) : var [q0, q1, 1] + var [q0, -q1, 1] + zer [q0, q1, 1] = 2 := by
  have one : (0 : Rat) < 1 := by decide
  have one' : sg 1 = 1 := sgp one
  have one0 : (1 : Rat) ≠ 0 := by decide
  rcases sg_cases q0 with ⟨a1, a2⟩ | ⟨a1, a2⟩ | ⟨a1, a2⟩ <;> rcases sg_cases q1 with ⟨b1, b2⟩ | ⟨b1, b2⟩ | ⟨b1, b2⟩
  · have hb : sg (-q1) = 1 := sgp (by grind)
    rw [var_nz _ (by grind), var_nz _ (by grind)]; simp [chg_cons, a2, b2, hb, one', chg, zer, show ¬ q0 = 0 by grind]
  · subst b1
    rw [var_nz _ (by grind), var_nz _ (by grind)]; simp [chg_cons, a2, sg_zero, one', chg, zer, show ¬ q0 = 0 by grind]
  · have hb : sg (-q1) = -1 := sg_neg (by grind)
    rw [var_nz _ (by grind), var_nz _ (by grind)]; simp [chg_cons, a2, b2, hb, one', chg, zer, show ¬ q0 = 0 by grind]
  · have hb : sg (-q1) = 1 := sgp (by grind)
    subst a1
    rw [var_zero, var_zero, var_nz _ (by grind), var_nz _ (by grind)]; simp [chg_cons, b2, hb, one', chg, zer, show ¬ q1 = 0 by grind]
  · subst a1 b1
    simp [var_zero, var_nz _ one0, chg, zer, one0]
  · have hb : sg (-q1) = -1 := sg_neg (by grind)
    subst a1
    rw [var_zero, var_zero, var_nz _ (by grind), var_nz _ (by grind)]; simp [chg_cons, b2, hb, one', chg, zer, show ¬ q1 = 0 by grind]
  · have hb : sg (-q1) = 1 := sgp (by grind)
    rw [var_nz _ (by grind), var_nz _ (by grind)]; simp [chg_cons, a2, b2, hb, one', chg, zer, show ¬ q0 = 0 by grind]
  · subst b1; exfalso; grind
  · have hb : sg (-q1) = -1 := sg_neg (by grind)
    rw [var_nz _ (by grind), var_nz _ (by grind)]; simp [chg_cons, a2, b2, hb, one', chg, zer, show ¬ q0 = 0 by grind]
theorem quad_cases {q0 q1 : Rat} (h : 4 * q0 ≤ q1 * q1) : (var [q0, q1, 1] = 0) ∨ (var [q0, q1, 1] = 1 ∧ (q0 < 0 ∨ (q0 = 0 ∧ q1 < 0))) ∨ (var [q0, q1, 1] = 2 ∧ 0 < q0 ∧ q1 < 0) := by
  have one' : sg 1 = 1 := sgp (by decide)
  rcases sg_cases q0 with ⟨a1, a2⟩ | ⟨a1, a2⟩ | ⟨a1, a2⟩
  · right; left
    refine ⟨?_, .inl a1⟩
    rw [var_nz _ (by grind)]
    rcases sg_cases q1 with ⟨b1, b2⟩ | ⟨b1, b2⟩ | ⟨b1, b2⟩ <;> simp [chg_cons, a2, b2, one', chg]
  · subst a1
    rw [var_zero]
    rcases sg_cases q1 with ⟨b1, b2⟩ | ⟨b1, b2⟩ | ⟨b1, b2⟩
    · right; left; exact ⟨by rw [var_nz _ (by grind)]; simp [chg_cons, b2, one', chg], .inr ⟨rfl, b1⟩⟩
    · left; subst b1; rw [var_zero, var_nz _ (by decide)]; rfl
    · left; rw [var_nz _ (by grind)]; simp [chg_cons, b2, one', chg]
  · rcases sg_cases q1 with ⟨b1, b2⟩ | ⟨b1, b2⟩ | ⟨b1, b2⟩
    · right; right; exact ⟨by rw [var_nz _ (by grind)]; simp [chg_cons, a2, b2, one', chg], a1, b1⟩
    · left; rw [var_nz _ (by grind)]; simp [chg_cons, a2, b2, one', chg]
    · left; rw [var_nz _ (by grind)]; simp [chg_cons, a2, b2, one', chg]
theorem alt_quad (q0 q1 : Rat) : altL false [q0, q1, 1] = [q0, -q1, 1] := by simp [altL]
theorem alt_mul (r : Rat) (l : List Rat) : var (altL false (mulL r 0 l)) = var (mulL (-r) 0 (altL false l)) := by
  rw [(altL_mul r l 0).1, var_neg, show -(0 : Rat) = 0 by grind]
theorem nz_quad (q0 q1 : Rat) : ∃ q ∈ [q0, q1, (1 : Rat)], q ≠ 0 := ⟨1, by simp, by decide⟩
theorem mulL_nz {r : Rat} {l : List Rat} (hl : l.getLast? = some 1) : ∃ q ∈ mulL r 0 l, q ≠ 0 := by
  have hne : l ≠ [] := by intro e; rw [e] at hl; simp at hl
  have := mulL_last r 0 l hne
  rw [hl] at this
  exact ⟨1, List.mem_of_getLast? this, by decide⟩
theorem mul_below {q0 q1 a : Rat} (h : 4 * q0 ≤ q1 * q1) (ha : 0 < a) : var (mulL (-a) 0 [q0, q1, 1]) = var [q0, q1, 1] := by
  have ex := quad_exact h
  have hup : var (mulL (-a) 0 [q0, q1, 1]) ≤ var [q0, q1, 1] := by
    have h1 := var_alt (mulL (-a) 0 [q0, q1, 1]) false (mulL_nz rfl)
    rw [alt_mul, alt_quad, mulL_head (by grind) _ (nz_quad _ _), mulL_length, show - -a = a by grind] at h1
    have h2 := var_mul ha [q0, -q1, 1] (nz_quad _ _)
    simp at h1
    omega
  have e : mulL (-a) 0 [q0, q1, 1] = [a * q0, q0 + a * q1, q1 + a, 1] := by simp [mulL]; refine ⟨?_, ?_, ?_⟩ <;> grind
  rcases quad_cases h with h0 | ⟨h1, hs⟩ | ⟨h2, hp, hn⟩
  · omega
  · have : 1 ≤ var (mulL (-a) 0 [q0, q1, 1]) := by
      rw [e]
      rcases hs with hs | ⟨rfl, hs⟩
      · have := mul_neg_of ha hs
        rw [var_nz _ (by grind), sg_neg this]; exact chgm_pos ⟨1, by simp, by decide⟩
      · rw [show a * 0 = 0 by grind, var_zero]
        have := mul_neg_of ha hs
        rw [var_nz _ (by grind), sg_neg (show 0 + a * q1 < 0 by grind)]; exact chgm_pos ⟨1, by simp, by decide⟩
    omega
  · have : var (mulL (-a) 0 [q0, q1, 1]) = 2 := by
      rw [e]
      have hp' := Rat.mul_pos ha hp
      rw [var_nz _ (by grind), sgp hp']
      refine chg3 (by decide) ?_
      by_cases hc : q1 + a < 0
      · exact .inr hc
      · left
        have h3 : 0 ≤ (q1 + a) * -q1 := nn_mul (by grind) (by grind)
        grind
    omega
theorem mul2_below {q0 q1 a : Rat} (h : 4 * q0 ≤ q1 * q1) (ha : 0 < a) : var (mulL (-a) 0 (mulL (-a) 0 [q0, q1, 1])) = var [q0, q1, 1] := by
  have ex := quad_exact h
  have hup : var (mulL (-a) 0 (mulL (-a) 0 [q0, q1, 1])) ≤ var [q0, q1, 1] := by
    have hl : (mulL (-a) 0 [q0, q1, 1]).getLast? = some 1 := by rw [mulL_last _ _ _ (by simp)]; rfl
    have h1 := var_alt (mulL (-a) 0 (mulL (-a) 0 [q0, q1, 1])) false (mulL_nz hl)
    have e1 : var (altL false (mulL (-a) 0 (mulL (-a) 0 [q0, q1, 1]))) = var (mulL a 0 (mulL a 0 [q0, -q1, 1])) := by
      rw [alt_mul, (altL_mul (-a) [q0, q1, 1] 0).1, alt_quad, show - -a = a by grind, show -(0 : Rat) = 0 by grind]
      have : mulL a 0 ((mulL a 0 [q0, -q1, 1]).map (fun x => -x)) = (mulL a 0 (mulL a 0 [q0, -q1, 1])).map (fun x => -x) := by simp [mulL]; grind
      rw [this, var_neg]
    rw [e1, mulL_head (by grind) _ (mulL_nz rfl), mulL_head (by grind) _ (nz_quad _ _), mulL_length, mulL_length] at h1
    have h2 := var_mul ha [q0, -q1, 1] (nz_quad _ _)
    have h3 := var_mul ha (mulL a 0 [q0, -q1, 1]) (mulL_nz rfl)
    simp at h1
    omega
  have e : mulL (-a) 0 (mulL (-a) 0 [q0, q1, 1]) = [a * a * q0, 2 * a * q0 + a * a * q1, q0 + 2 * a * q1 + a * a, q1 + 2 * a, 1] := by simp [mulL]; refine ⟨?_, ?_, ?_, ?_⟩ <;> grind
  have haa := Rat.mul_pos ha ha
  rcases quad_cases h with h0 | ⟨h1, hs⟩ | ⟨h2, hp, hn⟩
  · omega
  · have : 1 ≤ var (mulL (-a) 0 (mulL (-a) 0 [q0, q1, 1])) := by
      rw [e]
      rcases hs with hs | ⟨rfl, hs⟩
      · have := mul_neg_of haa hs
        rw [var_nz _ (by grind), sg_neg this]; exact chgm_pos ⟨1, by simp, by decide⟩
      · rw [show a * a * 0 = 0 by grind, var_zero]
        have := mul_neg_of haa hs
        rw [var_nz _ (by grind), sg_neg (show 2 * a * 0 + a * a * q1 < 0 by grind)]; exact chgm_pos ⟨1, by simp, by decide⟩
    omega
  · have : 2 ≤ var (mulL (-a) 0 (mulL (-a) 0 [q0, q1, 1])) := by
      rw [e]
      have hp' := Rat.mul_pos haa hp
      rw [var_nz _ (by grind), sgp hp']
      refine chg4 (by decide) ?_
      by_cases c3 : q1 + 2 * a < 0
      · exact .inr (.inr c3)
      · by_cases c1 : 2 * a * q0 + a * a * q1 < 0
        · exact .inl c1
        · right; left
          obtain ⟨s, hs⟩ : ∃ s, s = -q1 / 2 := ⟨_, rfl⟩
          have hq1 : q1 = -(2 * s) := by grind
          rw [hq1] at h c3 c1 hn ⊢
          have s0 : 0 < s := by grind
          have has : s ≤ a := by grind
          have hq : a * s ≤ q0 := by
            rcases sg_cases (q0 - a * s) with ⟨x, _⟩ | ⟨x, _⟩ | ⟨x, _⟩
            · have := mul_neg_of (show 0 < 2 * a by grind) x
              exfalso; apply c1; grind
            · grind
            · grind
          have h5 : 0 ≤ s * (a - s) := nn_mul (by grind) (by grind)
          have h6 : a * s ≤ s * s := by grind
          have h7 : s * (a - s) = 0 := by grind
          rcases Rat.mul_eq_zero.1 h7 with h8 | h8
          · grind
          · have ea : a = s := by grind
            rw [ea] at hq ⊢
            have hq2 : q0 = s * s := by grind
            have hss := Rat.mul_pos s0 s0
            rw [hq2]; grind
    omega
end Go.Proofs.YtldokelpolbnnaaGreatDoor
end
