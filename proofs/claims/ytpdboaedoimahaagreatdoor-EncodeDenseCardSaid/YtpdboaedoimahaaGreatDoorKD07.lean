/- Joined out of parts of one proof by a program: contracts of the functions that the statement reaches, and the plain facts behind them. -/
import Derived.Test.YtpdboaedoimahaaGreatDoorKD06
import Derived.RangeFuncSeq
import Derived.RangeFuncGives
import Derived.Maps.AppendAt
import Derived.Shelf.Abstract
import Derived.Shelf.AbstractIn
import Derived.Sort.MapsRangeIn
import Derived.WalkKit
import Derived.OwnWalkIn
import Derived.TacticsInMore
import Derived.RegionIn
import Derived.LoopNIn
import Derived.LoopIn
import Derived.Shelf.SlIter.Collect
import Derived.Shelf.SlSortCmp.WholeK
import Derived.Ground.SlsfProg
import Derived.Test.YtpdboaedoimahaaGreatDoorProg
import Derived.Shelf.SlSortCmp.NoneTotal
set_option linter.unusedVariables false
set_option linter.unusedSimpArgs false
set_option linter.unusedSectionVars false
section
set_option linter.unusedVariables false
set_option linter.unusedSimpArgs false
namespace Go.Proofs.YtpdboaedoimahaaGreatDoor
def Dn (d N : Nat) (q : Rat) : Prop := ∃ k : Int, q * ((12 ^ d : Nat) : Rat) = (k : Rat) ∧ k.natAbs ≤ N
theorem p12_pos (d : Nat) : 0 < 12 ^ d := Nat.pow_pos (by omega)
theorem p12_ne (d : Nat) : ((12 ^ d : Nat) : Rat) ≠ 0 := by
 intro h
 have h1 : ((12 ^ d : Nat) : Rat) = ((0 : Nat) : Rat) := h
 have := Rat.natCast_inj.1 h1
 have := p12_pos d
 omega
theorem Dn.mono {d N M : Nat} {q : Rat} (h : Dn d N q) (hm : N ≤ M) : Dn d M q := by
 obtain ⟨k, h1, h2⟩ := h
 exact ⟨k, h1, by omega⟩
theorem Dn.add {d N M : Nat} {q r : Rat} (h : Dn d N q) (h' : Dn d M r) : Dn d (N + M) (q + r) := by
 obtain ⟨k, h1, h2⟩ := h
 obtain ⟨l, k1, k2⟩ := h'
 exact ⟨k + l, by rw [Rat.intCast_add, ← h1, ← k1]; grind, by omega⟩
theorem Dn.mul {d e N M : Nat} {q r : Rat} (h : Dn d N q) (h' : Dn e M r) : Dn (d + e) (N * M) (q * r) := by
 obtain ⟨k, h1, h2⟩ := h
 obtain ⟨l, k1, k2⟩ := h'
 refine ⟨k * l, ?_, by rw [Int.natAbs_mul]; exact Nat.mul_le_mul h2 k2⟩
 rw [Rat.intCast_mul, ← h1, ← k1, Nat.pow_add, Rat.natCast_mul]; grind
theorem Dn.zero (d N : Nat) : Dn d N 0 := ⟨0, by rw [Rat.zero_mul]; rfl, Nat.zero_le _⟩
theorem Dn.two {d N : Nat} {q : Rat} (h : Dn d N q) : Dn d (2 * N) (2 * q) := by
 have := h.add h
 rw [show 2 * q = q + q by grind, show 2 * N = N + N by omega]; exact this
theorem Dn.frac {d N : Nat} {q : Rat} (h : Dn d N q) : q.num.natAbs ≤ N ∧ q.den ≤ 12 ^ d := by
 obtain ⟨k, h1, hk⟩ := h
 have hp := p12_pos d
 have hq : q = Rat.divInt k ((12 ^ d : Nat) : Int) := by
  rw [Rat.divInt_eq_div, Rat.intCast_natCast, ← h1]
  have := p12_ne d
  grind
 obtain ⟨e1, e2, e3⟩ := new_pos (y := k) (z := ((12 ^ d : Nat) : Int)) (by omega)
 have hg0 : 0 < Nat.gcd k.natAbs (12 ^ d) := Nat.gcd_pos_of_pos_right _ hp
 rw [hq]
 constructor
 ·rw [e1, Int.natAbs_tdiv]
  exact Nat.le_trans (Nat.div_le_self _ _) hk
 ·have h2 : ((Rat.divInt k ((12 ^ d : Nat) : Int)).den : Int) ≤ ((12 ^ d : Nat) : Int) := by
   rw [e2, show (((12 ^ d : Nat) : Int)).natAbs = 12 ^ d from rfl, Int.tdiv_eq_ediv_of_nonneg (by omega), ← Int.natCast_ediv]
   exact Int.ofNat_le.2 (Nat.div_le_self _ _)
  exact Int.ofNat_le.1 h2
theorem Dn.small {d N : Nat} {q : Rat} (h : Dn d N q) (hd : d ≤ 50) (hN : N < 10 ^ 100) : smallB q = true := by
 obtain ⟨h1, h2⟩ := h.frac
 have h3 : 12 ^ d ≤ 12 ^ 50 := Nat.pow_le_pow_right (by omega) hd
 have h4 : 12 ^ 50 < 10 ^ 100 := by decide +kernel
 simp only [smallB, Bool.and_eq_true, decide_eq_true_eq]
 exact ⟨Nat.lt_of_le_of_lt h1 hN, Nat.lt_of_le_of_lt h2 (Nat.lt_of_le_of_lt h3 h4)⟩
theorem SmR.dn {q : Rat} (h : SmR q) : Dn 1 108 q := by
 obtain ⟨k, hk, hk2⟩ := h.t12
 refine ⟨k, ?_, hk2⟩
 rw [hk, Rat.divInt_eq_div]
 have : ((12 ^ 1 : Nat) : Rat) = ((12 : Int) : Rat) := by decide +kernel
 rw [this]
 have : ((12 : Int) : Rat) ≠ 0 := by decide +kernel
 grind
structure CFD (d N : Nat) (F : CF) : Prop where
 c : Dn d N F.c
 s : ∀ p, Dn d N (F.s p)
 t : ∀ q, Dn d N (F.t q)
theorem CFD.mono {d N M : Nat} {F : CF} (h : CFD d N F) (hm : N ≤ M) : CFD d M F := ⟨h.c.mono hm, fun p => (h.s p).mono hm, fun q => (h.t q).mono hm⟩
theorem CFD.add {d N M : Nat} {F G : CF} (h : CFD d N F) (h' : CFD d M G) : CFD d (N + M) (F.add G) := ⟨h.c.add h'.c, fun p => (h.s p).add (h'.s p), fun q => (h.t q).add (h'.t q)⟩
theorem CFD.scale {d e N M : Nat} {F : CF} {k : Rat} (h : CFD d N F) (hk : Dn e M k) : CFD (d + e) (N * M) (F.scale k) := ⟨h.c.mul hk, fun p => (h.s p).mul hk, fun q => (h.t q).mul hk⟩
theorem CFD.mul {d e N M : Nat} {F G : CF} (h : CFD d N F) (h' : CFD e M G) : CFD (d + e) (4 * (N * M)) (F.mul G) := by
 have sw : ∀ {q r : Rat}, Dn d N q → Dn e M r → Dn (d + e) (N * M) (r * q) := fun {q r} hq hr => by rw [show r * q = q * r by grind]; exact hq.mul hr
 refine ⟨(h.c.mul h'.c).mono (by omega), fun p => ((sw h.c (h'.s p)).add ((h.s p).mul h'.c)).mono (by omega), fun q => ?_⟩
 have e1 := (sw h.c (h'.t q)).add ((h.t q).mul h'.c)
 have e2 : Dn (d + e) (N * M + N * M) (crossP F G q) := by
  unfold crossP
  split
  ·exact Dn.zero _ _
  ·split
   ·have := ((h.s q.1).mul (h'.s q.1)).two
    exact this.mono (by omega)
   ·exact ((h.s q.1).mul (h'.s q.2)).add ((h.s q.2).mul (h'.s q.1))
 exact (e1.add e2).mono (by omega)
def letB (c : UInt8) : Bool := decide (97 ≤ c.toNat) && decide (c.toNat ≤ 122)
def wordB (s : List UInt8) : Bool := match s with
 | [] => false
 | c :: l => letB c && l.all (fun x => letB x || (decide (x.toNat = 45) || (decide (48 ≤ x.toNat) && decide (x.toNat ≤ 57)))) && decide (s.length ≤ 12)
structure PV (p : Par) : Prop where
 lo : -1 ≤ p.1
 hi : p.1 ≤ 1000
 cat : p.2 = [] ∨ wordB p.2 = true
structure CFV (F : CF) : Prop where
 s : ∀ p, F.s p ≠ 0 → PV p
 t : ∀ q, F.t q ≠ 0 → PV q.1 ∧ PV q.2 ∧ ¬ 0 < cmpP q.1 q.2
theorem or_of_add {a b : Rat} (h : a + b ≠ 0) : a ≠ 0 ∨ b ≠ 0 := by
 by_cases ha : a = 0
 ·right; rintro rfl; apply h; rw [ha]; grind
 ·exact .inl ha
theorem and_of_mul {a b : Rat} (h : a * b ≠ 0) : a ≠ 0 ∧ b ≠ 0 := ⟨fun e => h (by rw [e]; grind), fun e => h (by rw [e]; grind)⟩
theorem CFV.add {F G : CF} (h : CFV F) (h' : CFV G) : CFV (F.add G) :=
 ⟨fun p hp => (or_of_add hp).elim (h.s p) (h'.s p), fun q hq => (or_of_add hq).elim (h.t q) (h'.t q)⟩
theorem CFV.scale {F : CF} (h : CFV F) (k : Rat) : CFV (F.scale k) := ⟨fun p hp => h.s p (and_of_mul hp).1, fun q hq => h.t q (and_of_mul hq).1⟩
theorem CFV.mul {F G : CF} (h : CFV F) (h' : CFV G) : CFV (F.mul G) := by
 refine ⟨fun p hp => (or_of_add hp).elim (fun e => h'.s p (and_of_mul e).1) (fun e => h.s p (and_of_mul e).1), fun q hq => ?_⟩
 rcases or_of_add hq with e | e
 ·exact (or_of_add e).elim (fun e => h'.t q (and_of_mul e).1) (fun e => h.t q (and_of_mul e).1)
 ·unfold crossP at e
  split at e
  ·exact absurd rfl e
  ·rename_i hno
   split at e
   ·rename_i heq
    have := and_of_mul (and_of_mul e).2
    exact ⟨h.s _ this.1, by rw [← heq]; exact h.s _ this.1, hno⟩
   ·rcases or_of_add e with e | e
    ·have := and_of_mul e; exact ⟨h.s _ this.1, h'.s _ this.2, hno⟩
    ·have := and_of_mul e; exact ⟨h'.s _ this.2, h.s _ this.1, hno⟩
theorem CFV.count (k : Rat) : CFV ⟨k, fun _ => 0, fun _ => 0⟩ := ⟨fun p h => absurd rfl h, fun q h => absurd rfl h⟩
theorem CFD.count {d N : Nat} {k : Rat} (h : Dn d N k) : CFD d N ⟨k, fun _ => 0, fun _ => 0⟩ := ⟨h, fun _ => Dn.zero _ _, fun _ => Dn.zero _ _⟩
end Go.Proofs.YtpdboaedoimahaaGreatDoor
end
section
set_option linter.unusedVariables false
set_option linter.unusedSimpArgs false
namespace Go.Proofs.YtpdboaedoimahaaGreatDoor
structure CFS (F : CF) : Prop where
 c : smallB F.c = true
 s : ∀ p, smallB (F.s p) = true
 t : ∀ q, smallB (F.t q) = true
theorem CFD.cfs {d N : Nat} {F : CF} (h : CFD d N F) (hd : d ≤ 50) (hN : N < 10 ^ 100) : CFS F := ⟨h.c.small hd hN, fun p => (h.s p).small hd hN, fun q => (h.t q).small hd hN⟩
def con (F G : CF) (x : Par × Par) : Rat := if x.1 = x.2 then F.s x.1 * G.s x.2 + F.s x.1 * G.s x.2 else F.s x.1 * G.s x.2
def crossL (F G : CF) : List (Par × Par) → Par × Par → Rat
 | [], _ => 0
 | x :: L, k => (if pairP x.1 x.2 = k then con F G x else 0) + crossL F G L k
theorem cross_snoc (F G : CF) (x : Par × Par) : ∀ (L : List (Par × Par)) (k : Par × Par), crossL F G (L ++ [x]) k = if k = pairP x.1 x.2 then con F G x + crossL F G L k else crossL F G L k
 | [], k => by
  simp only [List.nil_append, crossL]
  by_cases h : k = pairP x.1 x.2
  ·rw [if_pos h.symm, if_pos h]
  ·rw [if_neg (fun e => h e.symm), if_neg h]; grind
 | y :: L, k => by
  simp only [List.cons_append, crossL]
  rw [cross_snoc F G x L k]
  by_cases h : k = pairP x.1 x.2
  ·rw [if_pos h, if_pos h]; grind
  ·rw [if_neg h, if_neg h]
def two (F G : CF) (L : List (Par × Par)) (k : Par × Par) : Rat :=
 if 0 < cmpP k.1 k.2 then 0 else if k.1 = k.2 then (if k ∈ L then con F G k else 0) else (if k ∈ L then con F G k else 0) + (if (k.2, k.1) ∈ L then con F G (k.2, k.1) else 0)
theorem pairP_gt {p q : Par} (h : 0 < cmpP p q) : pairP p q = (q, p) := by unfold pairP; rw [if_pos h]
theorem pairP_le {p q : Par} (h : ¬ 0 < cmpP p q) : pairP p q = (p, q) := by unfold pairP; rw [if_neg h]
theorem pairP_ord (p q : Par) : ¬ 0 < cmpP (pairP p q).1 (pairP p q).2 := by
 by_cases h : 0 < cmpP p q
 ·rw [pairP_gt h]
  intro h'
  have := (ordP.sym p q).1
  have h1 := (ordP.sym q p).2 h
  simp only at h'
  omega
 ·rw [pairP_le h]; exact h
theorem pairP_eq {p q a b : Par} : pairP p q = (a, b) ↔ ¬ 0 < cmpP a b ∧ ((p = a ∧ q = b) ∨ (p = b ∧ q = a)) := by
 constructor
 ·intro h
  have := pairP_ord p q
  rw [h] at this
  refine ⟨this, ?_⟩
  by_cases h' : 0 < cmpP p q
  ·rw [pairP_gt h'] at h; cases h; exact .inr ⟨rfl, rfl⟩
  ·rw [pairP_le h'] at h; cases h; exact .inl ⟨rfl, rfl⟩
 ·rintro ⟨h, ⟨rfl, rfl⟩ | ⟨rfl, rfl⟩⟩
  ·exact pairP_le h
  ·rw [pairP_comm]; exact pairP_le h
theorem cross_two (F G : CF) : ∀ (L : List (Par × Par)) (k : Par × Par), L.Nodup → crossL F G L k = two F G L k
 | [], k, _ => by
  unfold crossL two
  split
  ·rfl
  ·split
   ·simp
   ·simp; grind
 | (p, q) :: L, (a, b), hn => by
  rw [List.nodup_cons] at hn
  unfold crossL
  rw [cross_two F G L (a, b) hn.2]
  unfold two
  simp only
  by_cases h0 : 0 < cmpP a b
  ·rw [if_pos h0, if_pos h0, if_neg (fun e => (pairP_eq.1 e).1 h0)]; grind
  ·rw [if_neg h0, if_neg h0]
   by_cases hab : a = b
   ·subst hab
    rw [if_pos rfl, if_pos rfl]
    by_cases hx : (p, q) = (a, a)
    ·cases hx
     rw [if_pos (pairP_eq.2 ⟨h0, .inl ⟨rfl, rfl⟩⟩), if_neg hn.1, if_pos (by simp)]; grind
    ·rw [if_neg (fun e => hx (by rcases (pairP_eq.1 e).2 with ⟨rfl, rfl⟩ | ⟨rfl, rfl⟩ <;> rfl))]
     have : ((a, a) ∈ (p, q) :: L) ↔ (a, a) ∈ L := by simp [List.mem_cons, Ne.symm hx]
     simp only [this]; grind
   ·rw [if_neg hab, if_neg hab]
    by_cases hx : (p, q) = (a, b)
    ·cases hx
     rw [if_pos (pairP_eq.2 ⟨h0, .inl ⟨rfl, rfl⟩⟩), if_neg hn.1, if_pos (show (p, q) ∈ (p, q) :: L by simp)]
     have : ((q, p) ∈ (p, q) :: L) ↔ (q, p) ∈ L := by simp [List.mem_cons, Ne.symm hab]
     simp only [this]; grind
    ·by_cases hy : (p, q) = (b, a)
     ·cases hy
      rw [if_pos (pairP_eq.2 ⟨h0, .inr ⟨rfl, rfl⟩⟩), if_neg hn.1, if_pos (show (p, q) ∈ (p, q) :: L by simp)]
      have : ((q, p) ∈ (p, q) :: L) ↔ (q, p) ∈ L := by simp [List.mem_cons, hab]
      simp only [this]; grind
     ·rw [if_neg (fun e => by rcases (pairP_eq.1 e).2 with ⟨rfl, rfl⟩ | ⟨rfl, rfl⟩; exact hx rfl; exact hy rfl)]
      have h1 : ((a, b) ∈ (p, q) :: L) ↔ (a, b) ∈ L := by simp [List.mem_cons, Ne.symm hx]
      have h2 : ((b, a) ∈ (p, q) :: L) ↔ (b, a) ∈ L := by simp [List.mem_cons, Ne.symm hy]
      simp only [h1, h2]; grind
theorem cross_all (F G : CF) {L : List (Par × Par)} (hn : L.Nodup) (ha : ∀ p q, F.s p ≠ 0 → G.s q ≠ 0 → (p, q) ∈ L) (k : Par × Par) : crossL F G L k = crossP F G k := by
 rw [cross_two F G L k hn]
 have key : ∀ p q : Par, (if (p, q) ∈ L then con F G (p, q) else 0) = con F G (p, q) := fun p q => by
  by_cases h : (p, q) ∈ L
  ·rw [if_pos h]
  ·rw [if_neg h]
   have : F.s p = 0 ∨ G.s q = 0 := by
    by_cases h1 : F.s p = 0
    ·exact .inl h1
    ·by_cases h2 : G.s q = 0
     ·exact .inr h2
     ·exact absurd (ha p q h1 h2) h
   unfold con
   simp only
   rcases this with h1 | h1 <;> rw [h1] <;> split <;> grind
 obtain ⟨a, b⟩ := k
 unfold two crossP
 simp only [key]
 split
 ·rfl
 ·split
  ·rename_i e; subst e; unfold con; simp only [if_true]; grind
  ·rename_i e
   unfold con
   simp only [if_neg e, if_neg (fun e' : b = a => e e'.symm)]
theorem con_dn {d e N M : Nat} {F G : CF} (h : CFD d N F) (h' : CFD e M G) (x : Par × Par) : Dn (d + e) (2 * (N * M)) (con F G x) := by
 unfold con
 split
 ·exact (((h.s x.1).mul (h'.s x.2)).add ((h.s x.1).mul (h'.s x.2))).mono (by omega)
 ·exact ((h.s x.1).mul (h'.s x.2)).mono (by omega)
theorem cross_dn {d e N M : Nat} {F G : CF} (h : CFD d N F) (h' : CFD e M G) {L : List (Par × Par)} (hn : L.Nodup) (k : Par × Par) : Dn (d + e) (4 * (N * M)) (crossL F G L k) := by
 rw [cross_two F G L k hn]
 have h1 : ∀ x, Dn (d + e) (2 * (N * M)) (if x ∈ L then con F G x else 0) := fun x => by
  split
  ·exact con_dn h h' x
  ·exact Dn.zero _ _
 unfold two
 split
 ·exact Dn.zero _ _
 ·split
  ·exact (h1 k).mono (by omega)
  ·exact ((h1 k).add (h1 _)).mono (by omega)
def assocQ {κ : Type} [DecidableEq κ] (a : κ) : List (κ × Rat) → Rat
 | [] => 0
 | (b, q) :: l => if a = b then q else assocQ a l
section
variable {κ : Type} [DecidableEq κ]
theorem assocQ_mem {a : κ} {q : Rat} : ∀ {l : List (κ × Rat)}, (l.map (·.1)).Nodup → (a, q) ∈ l → assocQ a l = q
 | (b, r) :: l, hn, h => by
  simp only [List.map_cons, List.nodup_cons] at hn
  unfold assocQ
  rcases List.mem_cons.1 h with e | e
  ·cases e; rw [if_pos rfl]
  ·have : a ≠ b := fun e' => hn.1 (by rw [← e']; exact List.mem_map.2 ⟨_, e, rfl⟩)
   rw [if_neg this]; exact assocQ_mem hn.2 e
theorem assocQ_not {a : κ} : ∀ {l : List (κ × Rat)}, a ∉ l.map (·.1) → assocQ a l = 0
 | [], _ => rfl
 | (b, r) :: l, h => by
  simp only [List.map_cons, List.mem_cons, not_or] at h
  unfold assocQ
  rw [if_neg h.1]; exact assocQ_not h.2
end
end Go.Proofs.YtpdboaedoimahaaGreatDoor
end
section
set_option linter.unusedSectionVars false
set_option linter.unusedVariables false
namespace Go.Proofs.YtpdboaedoimahaaGreatDoor
variable [Flag]
def atReg : List KI → Bool
 | .code (.region _ _ _) :: _ => true
 | _ => false
def meet (P : Program) : Nat → List KI × S → List KI × S
 | 0, st => st
 | n + 1, st => cond (atReg st.1) st (match one P st.1 st.2 with | some st' => meet P n st' | none => st)
section rules
variable {P : Program} [Mixed P] {fn : Func} {Post : Spec} {st : List KI × S} {u m : PH}
theorem meet_sound : ∀ (n : Nat) (st : List KI × S), Sym P fn Post (meet P n st).1 (meet P n st).2 u m → Sym P fn Post st.1 st.2 u m
 | 0, st, h => h
 | n + 1, st, h => by
  unfold meet at h
  cases hn : atReg st.1 with
  | true => simp [hn] at h; exact h
  | false =>
   simp only [hn, cond_false] at h
   split at h
   ·rename_i st' he
    obtain ⟨ks', s'⟩ := st'
    exact one_sound Mixed.mx he (meet_sound n _ h)
   ·exact h
theorem G.canon (T : List (Nat × SV)) (B : List (Nat × Blk)) (h : noReg (meet P 200 st).1 = true) (hl : liveB T B = true) (h0 : Cov (meet P 200 st).2.n (meet P 200 st).2 T B) (k : G P fn Post ((meet P 200 st).1, S.of (meet P 200 st).2.n T B) u m) : G P fn Post st u m := by
 refine ⟨meet_sound 200 st ?_⟩
 have hk := k.out
 rw [Sym.ofNo h] at hk ⊢
 intro c ρ a w hm0 hr
 exact hk c ρ a w hm0 (hr.cov h0 hl)
end rules
end Go.Proofs.YtpdboaedoimahaaGreatDoor
end
section
set_option linter.unusedSectionVars false
set_option linter.unusedVariables false
namespace Go.Proofs.YtpdboaedoimahaaGreatDoor
open Go.RowKit
theorem bl_asym {x y : List UInt8} (h : Op.bytesLess x y = true) : Op.bytesLess y x = false := by
 cases h' : Op.bytesLess y x with
 | false => rfl
 | true => have := bl_trans h h'; rw [bl_irr] at this; cases this
theorem bl_gt (x y : List UInt8) : (!(Op.bytesLess x y || decide (x = y))) = Op.bytesLess y x := by
 cases h1 : Op.bytesLess x y with
 | true => rw [bl_asym h1]; rfl
 | false =>
  by_cases e : x = y
  ·subst e; rw [h1]; simp
  ·cases h2 : Op.bytesLess y x with
   | true => simp [e]
   | false => exact absurd (bl_tri h1 h2) e
section rules
variable [Flag] {P : Program} [Mixed P] {fn : Func} {Post : Spec} {st : List KI × S} {u m : PH}
theorem G.ltS (a b : List UInt8) (r : Bool) (h : stopV P (adv P st) = .bin .lss (.string (mkS a)) (.string (mkS b))) (hr : Op.bytesLess a b = r) (k : G P fn Post (nx (adv P st) (.bool r)) u m) : G P fn Post st u m :=
 G.bin (.bool r) h (fun t X Y w => guard_str t X Y w) (fun t w => by simp only [binOp, Op.stringOp, mkS_toList]; rw [hr]; rfl) k
theorem G.gtS (a b : List UInt8) (r : Bool) (h : stopV P (adv P st) = .bin .gtr (.string (mkS a)) (.string (mkS b))) (hr : Op.bytesLess b a = r) (k : G P fn Post (nx (adv P st) (.bool r)) u m) : G P fn Post st u m :=
 G.bin (.bool r) h (fun t X Y w => guard_str t X Y w) (fun t w => by
  rw [← hr, ← bl_gt]
  simp only [binOp, Op.stringOp, mkS_toList]
  rw [show (a == b) = decide (a = b) from by by_cases e : a = b <;> simp [e]]
  rfl) k
end rules
section
variable [Flag] {u : PH}
theorem isNaNI0 (x : Int) : Fn0 Tryz.prog 143 [.int .i64 x] u fun v _ => v = .bool false := by
 refine Fn0.of Tryz.func143 (by kernel_rfl) (by kernel_rfl) ?_
 refine G.neqF x x (by kernel_rfl) (by omega) ?_
 exact G.ret (.bool false) (by kernel_rfl) ⟨rfl, rfl⟩
theorem isNaNS0 (x : List UInt8) : Fn0 Tryz.prog 144 [.string (mkS x)] u fun v _ => v = .bool false := by
 refine Fn0.of Tryz.func144 (by kernel_rfl) (by kernel_rfl) ?_
 refine G.neSF x x (by kernel_rfl) rfl ?_
 exact G.ret (.bool false) (by kernel_rfl) ⟨rfl, rfl⟩
theorem cmpI0 (x y : Int) : Fn0 Tryz.prog 80 [.int .i64 x, .int .i64 y] u fun v _ => v = .int .i64 (cmpI x y) := by
 refine Fn0.of Tryz.func80 (by kernel_rfl) (by kernel_rfl) ?_
 refine G.call0 _ _ (by kernel_rfl) Tryz.call143 (isNaNI0 x) ?_
 rintro v1 u1 l1 rfl
 refine G.call0 _ _ (by kernel_rfl) Tryz.call143 (isNaNI0 y) ?_
 rintro v2 u2 l2 rfl
 unfold cmpI
 by_cases h : x < y
 ·refine G.lssT x y (by kernel_rfl) h ?_
  exact G.ret (.int .i64 (-1)) (by kernel_rfl) ⟨rfl, by rw [if_pos h]⟩
 ·refine G.lssF x y (by kernel_rfl) h ?_
  by_cases h' : x > y
  ·refine G.gtrT x y (by kernel_rfl) h' ?_
   exact G.ret (.int .i64 1) (by kernel_rfl) ⟨rfl, by rw [if_neg h, if_pos h']⟩
  ·refine G.gtrF x y (by kernel_rfl) h' ?_
   exact G.ret (.int .i64 0) (by kernel_rfl) ⟨rfl, by rw [if_neg h, if_neg h']⟩
theorem cmpS0 (x y : List UInt8) : Fn0 Tryz.prog 81 [.string (mkS x), .string (mkS y)] u fun v _ => v = .int .i64 (cmpS x y) := by
 refine Fn0.of Tryz.func81 (by kernel_rfl) (by kernel_rfl) ?_
 refine G.call0 _ _ (by kernel_rfl) Tryz.call144 (isNaNS0 x) ?_
 rintro v1 u1 l1 rfl
 refine G.call0 _ _ (by kernel_rfl) Tryz.call144 (isNaNS0 y) ?_
 rintro v2 u2 l2 rfl
 unfold cmpS
 cases h : Op.bytesLess x y with
 | true =>
  refine G.ltS x y true (by kernel_rfl) h ?_
  exact G.ret (.int .i64 (-1)) (by kernel_rfl) ⟨rfl, by rw [if_pos rfl]⟩
 | false =>
  refine G.ltS x y false (by kernel_rfl) h ?_
  cases h' : Op.bytesLess y x with
  | true =>
   refine G.gtS x y true (by kernel_rfl) h' ?_
   exact G.ret (.int .i64 1) (by kernel_rfl) ⟨rfl, by rw [if_neg (by simp), if_neg (fun e => by subst e; rw [bl_irr] at h'; cases h')]⟩
  | false =>
   refine G.gtS x y false (by kernel_rfl) h' ?_
   exact G.ret (.int .i64 0) (by kernel_rfl) ⟨rfl, by rw [if_neg (by simp), if_pos (bl_tri h h')]⟩
theorem cmpOr0 (x y : Int) {b : Nat} (h : ElsP u b 0 1 [.int .i64 x, .int .i64 y]) : Fn0 Tryz.prog 79 [.slice (some ⟨b, 0, none⟩) 2 2] u fun v _ => v = .int .i64 (if x ≠ 0 then x else y) := by
 refine Fn0.of Tryz.func79 (by kernel_rfl) (by kernel_rfl) ?_
 refine G.loop (ι := Nat) (fun i => [(3, .v (.int .i64 0)), (6, .v (.slice (some ⟨b, 0, none⟩) 2 2)), (7, .v (.int .i64 ((2 : Nat) : Int))), (8, .v (.int .i64 (i : Int)))]) (fun _ => [])
  (fun i u' m' => i ≤ 2 ∧ m' = PH.mt ∧ (1 ≤ i → x = 0) ∧ (2 ≤ i → y = 0)) (fun i => 2 - i) 0 (by kernel_rfl) (fun _ => by kernel_rfl) ⟨by kernel_rfl, by kernel_rfl, by kernel_rfl⟩ ⟨by omega, rfl, by omega, by omega⟩ ?_
 rintro J i hJ u' m' hle ⟨hi, rfl, hx, hy⟩
 by_cases h2 : i = 2
 ·subst h2
  refine G.lssF ((2 : Nat) : Int) ((2 : Nat) : Int) (by kernel_rfl) (by omega) ?_
  exact G.ret (.int .i64 0) (by kernel_rfl) ⟨rfl, by rw [if_neg (by simp [hx (by omega)]), hy (by omega)]⟩
 ·refine G.lssT (i : Int) ((2 : Nat) : Int) (by kernel_rfl) (by omega) ?_
  refine G.addr b 0 2 2 i 1 (by kernel_rfl) (by omega) ?_
  obtain ⟨z, hz, h1, h2⟩ : ∃ z : Int, ElP u' b (0 + i * 1) (.int .i64 z) ∧ (z ≠ 0 → (if x ≠ 0 then x else y) = z) ∧ (z = 0 → (1 ≤ i + 1 → x = 0) ∧ (2 ≤ i + 1 → y = 0)) := by
   rcases (by omega : i = 0 ∨ i = 1) with rfl | rfl
   ·exact ⟨x, (h 0 _ rfl).mono hle, fun hz => if_pos hz, fun hz => ⟨fun _ => hz, by omega⟩⟩
   ·exact ⟨y, (h 1 _ rfl).mono hle, fun hz => if_neg (by simp [hx (by omega)]), fun hz => ⟨fun _ => hx (by omega), fun _ => hz⟩⟩
  refine G.loadU none b (0 + i * 1) (.int .i64 z) (by kernel_rfl) (by kernel_rfl) hz ?_
  by_cases h0 : z = 0
  ·refine G.neqF z 0 (by kernel_rfl) (by omega) ?_
   refine G.add (i : Int) 1 ((i + 1 : Nat) : Int) (by kernel_rfl) (by omega) (by omega) (by omega) ?_
   exact G.back (by kernel_rfl) (hJ (i + 1) _ _ _ ⟨by kernel_rfl, by kernel_rfl, by kernel_rfl⟩ hle ⟨by omega, rfl, (h2 h0).1, (h2 h0).2⟩ (by omega))
  ·refine G.neqT z 0 (by kernel_rfl) h0 ?_
   exact G.ret (.int .i64 z) (by kernel_rfl) ⟨rfl, by rw [h1 h0]⟩
theorem compare0 (p q : Par) : Fn0 Tryz.prog 38 [parV p, parV q] u fun v _ => v = .int .i64 (cmpP p q) := by
 refine Fn0.of Tryz.func38 (by kernel_rfl) (by kernel_rfl) ?_
 refine G.call0 _ _ (by kernel_rfl) Tryz.call80 (cmpI0 p.1 q.1) ?_
 rintro v1 u1 l1 rfl
 refine G.call0 _ _ (by kernel_rfl) Tryz.call81 (cmpS0 p.2 q.2) ?_
 rintro v2 u2 l2 rfl
 refine G.buildU 3 1 8 (.int .i64 0) [.int .i64 (cmpI p.1 q.1), .int .i64 (cmpS p.2 q.2)] (by kernel_rfl) (intsZ_ok [_, _]) rfl (by omega) (by simp) (by simp) ?_
 intro g u3 l3 e3
 refine G.call0 _ _ (by kernel_rfl) Tryz.call79 (cmpOr0 _ _ e3) ?_
 rintro v4 u4 l4 rfl
 exact G.ret _ (by kernel_rfl) ⟨rfl, rfl⟩
end
end Go.Proofs.YtpdboaedoimahaaGreatDoor
end
section
set_option linter.unusedSectionVars false
set_option linter.unusedVariables false
namespace Go.Proofs.YtpdboaedoimahaaGreatDoor
open Go.RowKit
abbrev SB (q : Rat) : Prop := smallB q = true
theorem SB.sz {q : Rat} (h : SB q) : Sz q 12 := (smallB_spec h).2
theorem SB.tx {q : Rat} (h : SB q) : Tx q := (smallB_spec h).1
theorem SB.zero : SB 0 := by decide
abbrev fz : Value := .agg #[.bool false, .slice none 0 0, .bool false, .slice none 0 0]
end Go.Proofs.YtpdboaedoimahaaGreatDoor
end
section
set_option linter.unusedSectionVars false
set_option linter.unusedVariables false
namespace Go.Proofs.YtpdboaedoimahaaGreatDoor
open Go.RowKit Go.MapKept
section
variable {κ : Type} [DecidableEq κ]
def addL (f g : κ → Rat) (q : Rat) (L : List κ) : κ → Rat := fun k => if k ∈ L then g k * q + f k else f k
theorem addL_snoc (f g : κ → Rat) (q : Rat) {L : List κ} {k : κ} (h : k ∉ L) : setF (addL f g q L) k (g k * q + addL f g q L k) = addL f g q (L ++ [k]) := by
 funext j
 unfold setF addL
 by_cases e : j = k
 ·subst e; rw [if_pos rfl, if_neg h, if_pos (by simp)]
 ·rw [if_neg e]
  by_cases hj : j ∈ L
  ·rw [if_pos hj, if_pos (by simp [hj])]
  ·rw [if_neg hj, if_neg (by simp [hj, e])]
theorem addL_all (f g : κ → Rat) (q : Rat) {L : List κ} (h : ∀ k, k ∉ L → g k = 0) : addL f g q L = fun k => f k + g k * q := by
 funext k
 unfold addL
 by_cases hk : k ∈ L
 ·rw [if_pos hk]; grind
 ·rw [if_neg hk, h k hk]; grind
theorem addL_sb {f g : κ → Rat} {q : Rat} {L : List κ} (h1 : ∀ k, SB (f k)) (h2 : ∀ k, SB (f k + g k * q)) (k : κ) : SB (addL f g q L k) := by
 unfold addL
 split
 ·rw [Rat.add_comm]; exact h2 k
 ·exact h1 k
end
end Go.Proofs.YtpdboaedoimahaaGreatDoor
end
section
set_option linter.unusedSectionVars false
set_option linter.unusedVariables false
namespace Go.Proofs.YtpdboaedoimahaaGreatDoor
open Go.RowKit Go.MapKept
def isEqT (t : TypeId) : Op → Bool
 | .binOp _ t' .. => Nat.beq t' t
 | _ => false
section rules
variable [Flag] {P : Program} [Mixed P] {fn : Func} {Post : Spec} {st : List KI × S} {u m : PH}
theorem eqGuard_agg {op : BinOp} {t : TypeId} {xs ys : Array Value} (X Y : Operand) (hg : P.eqGuardType P.depth t = false) (w : World) : (eqGuard op t X Y (.agg xs) (.agg ys)).run P w = .ok () w := by
 unfold eqGuard; split <;> simp [hg]
theorem G.eqAgg (t : TypeId) (xs ys : Array Value) (r : Bool) (h : stopV P (adv P st) = .binT .eql (P.underlying t) (.agg xs) (.agg ys)) (hq : stopQ (isEqT t) (adv P st) = true) (hg : P.eqGuardType P.depth t = false) (he : ∀ w, (Op.equal t (.agg xs) (.agg ys)).run P w = .ok r w)
  (k : G P fn Post (nx (adv P st) (.bool r)) u m) : G P fn Post st u m := by
 refine G.askQ (isEqT t) h hq (by simp) (fun env o hview hQ w _ => ?_) k
 obtain ⟨t', X, Y, yt, e, e1, e2, e3⟩ := view_binT hview
 obtain ⟨dst, opp, type, pos, after, guard⟩ := o
 simp only at e; subst e
 obtain rfl : t' = t := Nat.eq_of_beq_eq_true hQ
 simp [execOp, e1, e2, eqGuard_agg X Y hg, binOp, he]
theorem G.neAgg (t : TypeId) (xs ys : Array Value) (r : Bool) (h : stopV P (adv P st) = .binT .neq (P.underlying t) (.agg xs) (.agg ys)) (hq : stopQ (isEqT t) (adv P st) = true) (hg : P.eqGuardType P.depth t = false) (he : ∀ w, (Op.equal t (.agg xs) (.agg ys)).run P w = .ok r w)
  (k : G P fn Post (nx (adv P st) (.bool (!r))) u m) : G P fn Post st u m := by
 refine G.askQ (isEqT t) h hq (by simp) (fun env o hview hQ w _ => ?_) k
 obtain ⟨t', X, Y, yt, e, e1, e2, e3⟩ := view_binT hview
 obtain ⟨dst, opp, type, pos, after, guard⟩ := o
 simp only at e; subst e
 obtain rfl : t' = t := Nat.eq_of_beq_eq_true hQ
 simp [execOp, e1, e2, eqGuard_agg X Y hg, binOp, he]
end rules
end Go.Proofs.YtpdboaedoimahaaGreatDoor
end
section
set_option linter.unusedSectionVars false
set_option linter.unusedVariables false
namespace Go.Proofs.YtpdboaedoimahaaGreatDoor
open Go.RowKit Go.MapKept
structure MulOK (F H : CF) : Prop where
 a : CFS F
 b : CFS H
 c : CFS (H.scale F.c)
 d : CFS (F.scale H.c)
 e : CFS ((H.scale F.c).add (F.scale H.c))
 f : SB (F.c * H.c)
 pr : ∀ p q, SB (F.s p * H.s q)
 con : ∀ x, SB (con F H x)
 acc : ∀ Ps : List (Par × Par), Ps.Nodup → ∀ k, SB (((H.scale F.c).add (F.scale H.c)).t k + crossL F H Ps k)
theorem mulOK {d e N M : Nat} {F H : CF} (h : CFD d N F) (h' : CFD e M H) (hd : d + e ≤ 50) (hN : 8 * (N * M) < 10 ^ 100) (h1 : 0 < N) (h2 : 0 < M) : MulOK F H := by
 have b1 : N ≤ N * M := Nat.le_mul_of_pos_right _ h2
 have b2 : M ≤ N * M := Nat.le_mul_of_pos_left _ h1
 have c1 : CFD (d + e) (N * M) (H.scale F.c) := by have := h'.scale h.c; rw [Nat.add_comm, Nat.mul_comm] at this; exact this
 have c2 : CFD (d + e) (N * M) (F.scale H.c) := h.scale h'.c
 exact ⟨h.cfs (by omega) (by omega), h'.cfs (by omega) (by omega), c1.cfs hd (by omega), c2.cfs hd (by omega), (c1.add c2).cfs hd (by omega), (h.c.mul h'.c).small hd (by omega),
  fun p q => ((h.s p).mul (h'.s q)).small hd (by omega), fun x => (con_dn h h' x).small hd (by omega), fun Ps hn k => (((c1.add c2).t k).add (cross_dn h h' hn k)).small hd (by omega)⟩
end Go.Proofs.YtpdboaedoimahaaGreatDoor
end
section
set_option linter.unusedSectionVars false
set_option linter.unusedVariables false
namespace Go.Proofs.YtpdboaedoimahaaGreatDoor
open Go.RowKit Go.MapKept
def termV (p : Par × Rat) : Value := .agg #[.int .i64 p.1.1, .string (mkS p.1.2), .string (mkS (ratT p.2))]
def prtV (x : (Par × Par) × Rat) : Value := .agg #[.int .i64 x.1.1.1, .string (mkS x.1.1.2), .int .i64 x.1.2.1, .string (mkS x.1.2.2), .string (mkS (ratT x.2))]
def CofP (u : PH) (v : Value) (F : CF) (K : Nat) : Prop :=
 ∃ (T : List (Par × Rat)) (Q : List ((Par × Par) × Rat)) (a1 : Option Addr) (c1 : Nat) (a2 : Option Addr) (c2 : Nat), v = .agg #[.string (mkS (ratT F.c)), .slice a1 T.length c1, .slice a2 Q.length c2] ∧
  ListP u (.slice a1 T.length c1) 3 (T.map termV) ∧ ListP u (.slice a2 Q.length c2) 5 (Q.map prtV) ∧ Can cmpP F.s T ∧ Can cmpQ F.t Q ∧ T.length ≤ K ∧ Q.length ≤ K
theorem CofP.mono {u u' : PH} {v : Value} {F : CF} {K : Nat} (h : CofP u v F K) (hl : PH.le u u') : CofP u' v F K := by
 obtain ⟨T, Q, a1, c1, a2, c2, e, h1, h2, h3⟩ := h
 exact ⟨T, Q, a1, c1, a2, c2, e, h1.mono hl, h2.mono hl, h3⟩
section
variable {κ : Type} [DecidableEq κ]
theorem assocQ_snoc {l : List (κ × Rat)} {a : κ} {q : Rat} (h : a ∉ l.map (·.1)) : (fun k => assocQ k (l ++ [(a, q)])) = setF (fun k => assocQ k l) a q := by
 funext k
 unfold setF
 induction l with
 | nil => simp [assocQ]
 | cons p l ih =>
  obtain ⟨b, r⟩ := p
  simp only [List.map_cons, List.mem_cons, not_or] at h
  simp only [List.cons_append, assocQ]
  by_cases hk : k = b
  ·rw [if_pos hk, if_pos hk, if_neg (fun e => h.1 (by rw [← e, hk]))]
  ·rw [if_neg hk, if_neg hk]; exact ih h.2
theorem Can.fn {c : κ → κ → Int} (hc : Ord c) {f : κ → Rat} {l : List (κ × Rat)} (h : Can c f l) : ∀ k, assocQ k l = f k := fun k => by
 by_cases hk : k ∈ l.map (·.1)
 ·obtain ⟨p, hp, rfl⟩ := List.mem_map.1 hk
  rw [assocQ_mem (h.srt.nodup hc) (q := p.2) hp]; exact (h.val p hp).1
 ·rw [assocQ_not hk, h.out k hk]
theorem take_new {l : List (κ × Rat)} {i : Nat} {p : κ × Rat} (hn : (l.map (·.1)).Nodup) (hi : l[i]? = some p) : p.1 ∉ (l.take i).map (·.1) := by
 intro hm
 obtain ⟨q, hq, e⟩ := List.mem_map.1 hm
 obtain ⟨j, hj, rfl⟩ := List.mem_iff_getElem.1 hq
 have hji : j < i := by simp at hj; omega
 obtain ⟨hil, rfl⟩ := List.getElem?_eq_some_iff.1 hi
 rw [List.getElem_take] at e
 have := List.pairwise_iff_getElem.1 hn j i (by simp; omega) (by simpa using hil) hji
 simp only [List.getElem_map] at this
 exact this e
end
end Go.Proofs.YtpdboaedoimahaaGreatDoor
end
section
set_option linter.unusedSectionVars false
set_option linter.unusedVariables false
namespace Go.Proofs.YtpdboaedoimahaaGreatDoor
open Go.RowKit Go.MapKept Go.Shelf
section
variable {F : Fence} {n : Nat} {P : Program} [Mixed P] {w : World} {ops : Array Oper} {rest : List Oper} {o : Oper} {a : Act} {Q : Exit → Act → World → Prop}
end
end Go.Proofs.YtpdboaedoimahaaGreatDoor
end
section
set_option linter.unusedSectionVars false
set_option linter.unusedVariables false
namespace Go.Proofs.YtpdboaedoimahaaGreatDoor
open Go.RowKit Go.MapKept Go.Shelf
end Go.Proofs.YtpdboaedoimahaaGreatDoor
end
section
set_option linter.unusedSectionVars false
set_option linter.unusedVariables false
namespace Go.Proofs.YtpdboaedoimahaaGreatDoor
open Go.RowKit Go.MapKept Go.Shelf
end Go.Proofs.YtpdboaedoimahaaGreatDoor
end
section
set_option linter.unusedSectionVars false
set_option linter.unusedVariables false
namespace Go.Proofs.YtpdboaedoimahaaGreatDoor
open Go.RowKit Go.MapKept Go.Shelf
abbrev cellsPar (p : Par) : List Value := [.int .i64 p.1, .string (mkS p.2)]
end Go.Proofs.YtpdboaedoimahaaGreatDoor
end
section
set_option linter.unusedSectionVars false
set_option linter.unusedVariables false
namespace Go.Proofs.YtpdboaedoimahaaGreatDoor
open Go.RowKit Go.MapKept Go.Shelf
end Go.Proofs.YtpdboaedoimahaaGreatDoor
end
section
namespace Go.Proofs
open Go.Shelf
def Tryz.sortPar_ren : Go.Shelf.Ren := ⟨fun | 6 => 37 | 15 => 78 | 14 => 77 | 28 => 141 | 29 => 142 | 20 => 133 | 21 => 134 | 22 => 135 | 23 => 136 | 24 => 137 | 25 => 138 | 26 => 139 | 27 => 140 | 46 => 185 | 47 => 186 | 48 => 187 | 49 => 188 | 50 => 189 | 57 => 216 | n => n, fun | 22 => 41 | 24 => 55 | 25 => 93 | 3 => 3 | 39 => 149 | 0 => 0 | 53 => 213 | 55 => 215 | 4 => 4 | 46 => 206 | 45 => 205 | 50 => 210 | 5 => 5 | 9 => 9 | 66 => 252 | 70 => 256 | 76 => 275 | 77 => 276 | n => n, fun | n => n⟩
theorem Tryz.sortPar : Go.Proofs.SlLaysF0.n6 Tryz.prog Tryz.sortPar_ren := {
 mixed := by kernel_rfl
 f6 := ⟨Tryz.f37.name, by decide, Tryz.func37.trans (congrArg some (by kernel_rfl))⟩
 f14 := ⟨Tryz.f77.name, by decide, Tryz.func77.trans (congrArg some (by kernel_rfl))⟩
 f15 := Tryz.func78.trans (congrArg some (by kernel_rfl))
 f20 := ⟨Tryz.f133.name, by decide, Tryz.func133.trans (congrArg some (by kernel_rfl))⟩
 f21 := ⟨Tryz.f134.name, by decide, Tryz.func134.trans (congrArg some (by kernel_rfl))⟩
 f22 := ⟨Tryz.f135.name, by decide, Tryz.func135.trans (congrArg some (by kernel_rfl))⟩
 f23 := ⟨Tryz.f136.name, by decide, Tryz.func136.trans (congrArg some (by kernel_rfl))⟩
 f24 := ⟨Tryz.f137.name, by decide, Tryz.func137.trans (congrArg some (by kernel_rfl))⟩
 f25 := ⟨Tryz.f138.name, by decide, Tryz.func138.trans (congrArg some (by kernel_rfl))⟩
 f26 := ⟨Tryz.f139.name, by decide, Tryz.func139.trans (congrArg some (by kernel_rfl))⟩
 f27 := ⟨Tryz.f140.name, by decide, Tryz.func140.trans (congrArg some (by kernel_rfl))⟩
 f28 := Tryz.func141.trans (congrArg some (by kernel_rfl))
 f29 := Tryz.func142.trans (congrArg some (by kernel_rfl))
 f46 := ⟨Tryz.f185.name, by decide, Tryz.func185.trans (congrArg some (by kernel_rfl))⟩
 f47 := Tryz.func186.trans (congrArg some (by kernel_rfl))
 f48 := Tryz.func187.trans (congrArg some (by kernel_rfl))
 f49 := ⟨Tryz.f188.name, by decide, Tryz.func188.trans (congrArg some (by kernel_rfl))⟩
 f50 := ⟨Tryz.f189.name, by decide, Tryz.func189.trans (congrArg some (by kernel_rfl))⟩
 f57 := ⟨Tryz.f216.name, by decide, Tryz.func216.trans (congrArg some (by kernel_rfl))⟩
 t0 := Tryz.underlying0
 a0 := Tryz.isAgg0
 z0 := Tryz.sizeOf0
 v0 := Tryz.zeroValue0
 t3 := Tryz.underlying3
 a3 := Tryz.isAgg3
 z3 := Tryz.sizeOf3
 v3 := Tryz.zeroValue3
 t4 := Tryz.underlying4
 a4 := Tryz.isAgg4
 z4 := Tryz.sizeOf4
 v4 := Tryz.zeroValue4
 t5 := Tryz.underlying5
 a5 := Tryz.isAgg5
 z5 := Tryz.sizeOf5
 v5 := Tryz.zeroValue5
 t9 := Tryz.underlying9
 a9 := Tryz.isAgg9
 z9 := Tryz.sizeOf9
 v9 := Tryz.zeroValue9
 t22 := Tryz.underlying41
 a22 := Tryz.isAgg41
 z22 := Tryz.sizeOf41
 v22 := Tryz.zeroValue41
 t25 := Tryz.underlying93
 a25 := Tryz.isAgg93
 z25 := Tryz.sizeOf93
 v25 := Tryz.zeroValue93
 t39 := Tryz.underlying149
 a39 := Tryz.isAgg149
 z39 := Tryz.sizeOf149
 v39 := Tryz.zeroValue149
 t45 := Tryz.underlying205
 a45 := Tryz.isAgg205
 z45 := Tryz.sizeOf205
 v45 := Tryz.zeroValue205
 t46 := Tryz.underlying206
 a46 := Tryz.isAgg206
 z46 := Tryz.sizeOf206
 v46 := Tryz.zeroValue206
 t50 := Tryz.underlying210
 a50 := Tryz.isAgg210
 z50 := Tryz.sizeOf210
 v50 := Tryz.zeroValue210
 t53 := Tryz.underlying213
 a53 := Tryz.isAgg213
 z53 := Tryz.sizeOf213
 v53 := Tryz.zeroValue213
 t55 := Tryz.underlying215
 a55 := Tryz.isAgg215
 z55 := Tryz.sizeOf215
 v55 := Tryz.zeroValue215
 t66 := Tryz.underlying252
 a66 := Tryz.isAgg252
 z66 := Tryz.sizeOf252
 v66 := Tryz.zeroValue252
 t70 := Tryz.underlying256
 a70 := Tryz.isAgg256
 z70 := Tryz.sizeOf256
 v70 := Tryz.zeroValue256
 t76 := Tryz.underlying275
 a76 := Tryz.isAgg275
 z76 := Tryz.sizeOf275
 v76 := Tryz.zeroValue275
 t77 := Tryz.underlying276
 a77 := Tryz.isAgg276
 z77 := Tryz.sizeOf276
 v77 := Tryz.zeroValue276 }
end Go.Proofs
end
section
set_option linter.unusedSectionVars false
set_option linter.unusedVariables false
namespace Go.Proofs.YtpdboaedoimahaaGreatDoor
open Go.RowKit Go.Sort
def allH (w : World) : PH := fun g => w.heap[g]?
theorem goodH (w : World) : Good (allH w) PH.mt w := ⟨fun _ _ h => h, Part.mt w, fun _ => .inr rfl, fun _ _ _ _ _ _ h _ => h⟩
@[reducible] def Flag.yes : Flag := ⟨True⟩
theorem grown_exact [Fl : Flag] (hF : Fl.on) {w w' : World} {u' : PH} (h : Grown (allH w) PH.mt w u' PH.mt w') : ∃ n os, w' = grow (w.drewN n) os := by
 have hd := h.dr hF
 refine ⟨w'.drawn - w.drawn, w'.heap.extract w.heap.size w'.heap.size, ?_⟩
 obtain ⟨hp, tp, dr, os, out⟩ := w
 obtain ⟨hp', tp', dr', os', out'⟩ := w'
 have h1 := hd.tape
 have h2 := hd.dr
 have h3 := h.io.1
 have h4 := h.io.2
 have h5 := h.sz
 have h6 := fun g hg => h.old g hg rfl
 simp only at h1 h2 h3 h4 h5 h6
 subst h1 h3 h4
 unfold grow World.drewN
 simp only [World.mk.injEq, and_true, true_and]
 refine ⟨?_, by omega⟩
 apply Array.ext_getElem?
 intro i
 by_cases hi : i < hp.size
 ·rw [Array.getElem?_append_left hi]; exact h6 i hi
 ·rw [Array.getElem?_append_right (by omega), Array.getElem?_extract]
  by_cases hi' : i < hp'.size
  ·rw [if_pos (by omega)]; congr 1; omega
  ·rw [if_neg (by omega), Array.getElem?_eq_none (by omega)]
theorem Fn0.exact [Fl : Flag] (hF : Fl.on) {P : Program} {f : FuncId} {args : List Value} {r : Value} (h : ∀ u, Fn0 P f args u (fun v _ => v = r)) (w : World) : Calls P f args.toArray w fun e w' => e = .returned r ∧ ∃ n os, w' = grow (w.drewN n) os := by
 refine Calls.mono (h (allH w) w (goodH w)) fun e w' he => ?_
 obtain ⟨v, u', m', e1, _, e3, e4, e5⟩ := he
 subst e4 e5
 exact ⟨e1, grown_exact hF e3⟩
theorem cmpLaysPar (blk off size : Nat) (w : World) : Go.Proofs.CmpLays Tryz.prog 38 #[] (fun p : Par => [.int .i64 p.1, .string (mkS p.2)]) 2 cmpP blk off size w :=
 fun m os dk _ x y => @Fn0.exact Flag.yes trivial _ _ _ _ (fun u => @compare0 Flag.yes u x y) _
end Go.Proofs.YtpdboaedoimahaaGreatDoor
end
section
set_option linter.unusedSectionVars false
set_option linter.unusedVariables false
namespace Go.Proofs.YtpdboaedoimahaaGreatDoor
open Go.RowKit Go.Sort
section
variable {κ : Type} {c : κ → κ → Int}
theorem Ord.swo (h : Ord c) : SWO (ltOf c) where
 irrefl x := by simp [ltOf, h.irr x]
 trans x y z h1 h2 := by
  simp only [ltOf, decide_eq_true_eq] at *
  exact h.trans x y z h1 h2
 ntrans x y z h1 h2 := by
  simp only [ltOf, decide_eq_false_iff_not] at *
  intro h3
  rcases Int.lt_trichotomy (c x y) 0 with e | e | e
  ·exact h1 e
  ·rw [h.eq x y e] at h3; exact h2 h3
  ·exact h2 (h.trans y x z ((h.sym y x).2 e) h3)
theorem Ord.tot (h : Ord c) (x y : κ) (h1 : ltOf c x y = false) (h2 : ltOf c y x = false) : x = y := by
 simp only [ltOf, decide_eq_false_iff_not] at *
 rcases Int.lt_trichotomy (c x y) 0 with e | e | e
 ·exact absurd e h1
 ·exact h.eq x y e
 ·exact absurd ((h.sym y x).2 e) h2
def sorted (c : κ → κ → Int) (l : List κ) : List κ := l.mergeSort fun x y => !(ltOf c) y x
theorem sorted_perm (l : List κ) : (sorted c l).Perm l := List.mergeSort_perm _ _
theorem sorted_sort (h : Ord c) {l : List κ} (hn : l.Nodup) : SortK c (sorted c l) := by
 have h1 : (sorted c l).Pairwise fun a b => (!(ltOf c) b a) = true := by
  refine List.pairwise_mergeSort (fun a b d h1 h2 => ?_) (fun a b => ?_) l
  ·simp only [Bool.not_eq_true'] at h1 h2 ⊢
   exact h.swo.ntrans d b a h2 h1
  ·simp only [Bool.or_eq_true, Bool.not_eq_true']
   cases e : ltOf c b a with
   | false => exact .inl rfl
   | true =>
    right
    simp only [ltOf, decide_eq_true_eq, decide_eq_false_iff_not] at *
    have := (h.sym b a).1 e
    omega
 have h2 : (sorted c l).Nodup := (sorted_perm l).nodup_iff.2 hn
 refine (h1.and h2).imp fun {a b} ⟨e1, e2⟩ => ?_
 simp only [Bool.not_eq_true', ltOf, decide_eq_false_iff_not] at e1
 rcases Int.lt_trichotomy (c a b) 0 with e | e | e
 ·exact e
 ·exact absurd (h.eq a b e) e2
 ·exact absurd ((h.sym b a).2 e) e1
end
section
variable {κ : Type} [Inhabited κ] {enc : κ → List Value} {k : Nat}
theorem flatMap_at (hk : ∀ x, (enc x).length = k) : ∀ (ss : List κ) (t : Nat), t < ss.length * k → (ss.flatMap enc)[t]? = some ((enc ss.toArray[t / k]!)[t % k]!)
 | [], t, h => by simp at h
 | x :: ss, t, h => by
  have hk0 : 0 < k := by
   rcases Nat.eq_zero_or_pos k with h0 | h0
   ·rw [h0] at h; simp at h
   ·exact h0
  rw [List.flatMap_cons]
  by_cases ht : t < k
  ·rw [List.getElem?_append_left (by rw [hk]; exact ht), Nat.div_eq_of_lt ht, Nat.mod_eq_of_lt ht]
   have : t < (enc x).length := by rw [hk]; exact ht
   simp [getElem!_pos, this]
  ·rw [List.getElem?_append_right (by rw [hk]; omega), hk, flatMap_at hk ss (t - k) (by simp only [List.length_cons, Nat.add_mul] at h; omega)]
   have e1 : t / k = (t - k) / k + 1 := by rw [Nat.div_eq_sub_div hk0 (by omega)]
   have e2 : t % k = (t - k) % k := Nat.mod_eq_sub_mod (by omega)
   rw [e1, e2]
   simp
theorem holds_row (hk : ∀ x, (enc x).length = k) {W : World} {gb : Nat} {e : TypeId} {cur : Array Value} {ss : List κ} (hgb : W.heap[gb]? = some (.cells cur e (0, 0))) (hcur : cur.toList.take (ss.length * k) = ss.flatMap enc) : HoldsK enc k W gb 0 ss.toArray := by
 intro t ht
 rw [size_flatK] at ht
 have ht' : t < ss.length * k := by simpa using ht
 have h1 : cur[t]? = some ((flatK enc k ss.toArray)[t]!) := by
  rw [get_flatK enc k _ t ht, ← flatMap_at hk ss t ht', ← hcur, List.getElem?_take, if_pos ht', Array.getElem?_toList]
 constructor
 ·simp [World.cell?, hgb, h1]
 ·simp [World.frozen?, hgb]
end
end Go.Proofs.YtpdboaedoimahaaGreatDoor
end
section
set_option linter.unusedSectionVars false
set_option linter.unusedVariables false
namespace Go.Proofs.YtpdboaedoimahaaGreatDoor
open Go.RowKit Go.MapKept Go.Shelf Go.Sort
theorem cellsPar_len (x : Par) : (cellsPar x).length = 2 := rfl
def pastI (P : Program) (st : List KI × S) : List KI × S := match one P (meet P 200 st).1 (meet P 200 st).2 with | some st' => st' | none => st
section
variable {P : Program} [Mixed P] {fn : Func} {Post : Spec} {st : List KI × S} {u m : PH}
theorem G.pastI (h : G P fn Post (pastI P st) u m) : G P fn Post st u m := by
 unfold Go.Proofs.YtpdboaedoimahaaGreatDoor.pastI at h
 split at h
 ·rename_i st' he
  exact ⟨meet_sound 200 st (one_sound Mixed.mx he h.out)⟩
 ·exact h
theorem Fn0.weak {f : FuncId} {args : List Value} {R R' : Value → PH → Prop} (h : Fn0 P f args u R) (hr : ∀ v u', R v u' → R' v u') : Fn0 P f args u R' := fun w hg => Calls.mono (h w hg) fun e w' ⟨v, u', m', e1, e2, e3, e4, e5⟩ => ⟨v, u', m', e1, e2, e3, e4, hr _ _ e5⟩
end
end Go.Proofs.YtpdboaedoimahaaGreatDoor
end
section
set_option linter.unusedSectionVars false
set_option linter.unusedVariables false
namespace Go.Proofs.YtpdboaedoimahaaGreatDoor
open Go.RowKit Go.MapKept Go.Shelf Go.Sort
end Go.Proofs.YtpdboaedoimahaaGreatDoor
end
section
set_option linter.unusedSectionVars false
set_option linter.unusedVariables false
namespace Go.Proofs.YtpdboaedoimahaaGreatDoor
open Go.RowKit Go.MapKept
theorem ArrAt.le {m0 m : PH} {v : Value} {t : TypeId} {sz : Nat} {es : List Value} (h : ArrAt m0 m v t sz es) : PH.le m0 m := by
 rcases h.2 with ⟨_, _, rfl⟩ | ⟨g, cap, rest, hg0, rfl, _⟩
 ·exact PH.le_refl _
 ·exact le_upd _ hg0
theorem termV_ok (p : Par × Rat) : ElsOK 3 [termV p] := fun e he => by
 simp at he; subst he
 exact ⟨rfl, fun y hy => by simp [termV, Value.cells] at hy; rcases hy with rfl | rfl | rfl <;> rfl⟩
theorem prtV_ok (p : (Par × Par) × Rat) : ElsOK 5 [prtV p] := fun e he => by
 simp at he; subst he
 exact ⟨rfl, fun y hy => by simp [prtV, Value.cells] at hy; rcases hy with rfl | rfl | rfl | rfl | rfl <;> rfl⟩
end Go.Proofs.YtpdboaedoimahaaGreatDoor
end
section
set_option linter.unusedSectionVars false
set_option linter.unusedVariables false
namespace Go.Proofs.YtpdboaedoimahaaGreatDoor
open Go.RowKit Go.MapKept
theorem ratT_ne0 {q : Rat} (h : q ≠ 0) : ratT q ≠ [48] := by
 intro e
 unfold ratT at e
 split at e
 ·have := itoa_inj (e.trans itoa_zero.symm)
  exact h (Rat.num_eq_zero.1 this)
 ·have : (47 : UInt8) ∈ Lib.itoa q.num ++ 47 :: Lib.itoa (q.den : Int) := by simp
  rw [e] at this
  simp at this
theorem less0 {u : PH} (p q : Par) (r : Bool) (h : decide (cmpP p q < 0) = r) : Fn0 Tryz.prog 42 [parV p, parV q] u fun v _ => v = .bool r := by
 refine Fn0.of Tryz.func42 (by kernel_rfl) (by kernel_rfl) ?_
 refine G.call0 _ _ (by kernel_rfl) Tryz.call38 (compare0 p q) ?_
 rintro v1 u1 l1 rfl
 cases r with
 | true =>
  refine G.lssT (cmpP p q) 0 (by kernel_rfl) (of_decide_eq_true h) ?_
  exact G.ret (.bool true) (by kernel_rfl) ⟨rfl, rfl⟩
 | false =>
  refine G.lssF (cmpP p q) 0 (by kernel_rfl) (of_decide_eq_false h) ?_
  exact G.ret (.bool false) (by kernel_rfl) ⟨rfl, rfl⟩
theorem entry0 {u : PH} {q : Rat} (h : Tx q) (h0 : q ≠ 0) : Fn0 Tryz.prog 69 [.string (mkS (ratT q))] u fun v _ => v = .bool true := by
 refine Fn0.of Tryz.func69 (by kernel_rfl) (by kernel_rfl) ?_
 refine G.call0 _ _ (by kernel_rfl) Tryz.call66 (ratValid0 h) ?_
 rintro v1 u1 l1 rfl
 refine G.neST (ratT q) [48] (by kernel_rfl) (ratT_ne0 h0) ?_
 exact G.ret (.bool true) (by kernel_rfl) ⟨rfl, rfl⟩
theorem wordB_len {s : List UInt8} (h : wordB s = true) : 1 ≤ s.length ∧ s.length ≤ 12 := by
 unfold wordB at h
 split at h
 ·cases h
 ·simp only [Bool.and_eq_true, decide_eq_true_eq] at h
  exact ⟨by simp, h.2⟩
theorem wordB_at {s : List UInt8} (h : wordB s = true) {i : Nat} {c : UInt8} (hi : s[i]? = some c) : (97 ≤ c.toNat ∧ c.toNat ≤ 122) ∨ (i ≠ 0 ∧ (c.toNat = 45 ∨ (48 ≤ c.toNat ∧ c.toNat ≤ 57))) := by
 unfold wordB at h
 split at h
 ·cases h
 ·rename_i d l
  simp only [Bool.and_eq_true, decide_eq_true_eq, List.all_eq_true, letB, Bool.or_eq_true] at h
  obtain ⟨⟨h1, h2⟩, _⟩ := h
  match i, hi with
  | 0, hi => simp at hi; subst hi; exact .inl h1
  | i + 1, hi =>
   simp at hi
   rcases h2 c (List.mem_of_getElem? hi) with h | h
   ·exact .inl h
   ·exact .inr ⟨by omega, h⟩
set_option maxHeartbeats 2000000 in
theorem word0 {u : PH} {s : List UInt8} (h : wordB s = true) : Fn0 Tryz.prog 131 [.string (mkS s)] u fun v _ => v = .bool true := by
 obtain ⟨hl1, hl2⟩ := wordB_len h
 refine Fn0.of Tryz.func131 (by kernel_rfl) (by kernel_rfl) ?_
 refine G.convSB (some .string) 5 s (by kernel_rfl) (by kernel_rfl) (by kernel_rfl) ?_
 intro v1 u1 l1 hb
 obtain ⟨a, c, rfl⟩ := ListP.opn hb
 rw [bytesV_length] at hb ⊢
 refine G.loop (ι := Nat) (fun i => [(0, .v (.string (mkS s))), (7, .v (.slice a s.length c)), (8, .v (.int .i64 (s.length : Int))), (9, .v (.int .i64 (i : Int)))]) (fun _ => [])
  (fun i u' m' => i ≤ s.length ∧ m' = PH.mt) (fun i => s.length - i) 0 (by kernel_rfl) (fun _ => by kernel_rfl) ⟨by kernel_rfl, by kernel_rfl, by kernel_rfl⟩ ⟨by omega, rfl⟩ ?_
 rintro J i hJ u2 m2 l2 ⟨hi, rfl⟩
 by_cases hlt : i < s.length
 ·refine G.lssT (i : Int) (s.length : Int) (by kernel_rfl) (by omega) ?_
  have hsi : s[i]? = some s[i] := List.getElem?_eq_getElem hlt
  obtain ⟨b, off, rfl, e⟩ := ListP.at' (hb.mono l2) (j := i) (e := .int .u8 (s[i].toNat : Int)) (by simp [bytesV, hsi])
  have hw := wordB_at h hsi
  generalize s[i].toNat = n at e hw
  refine G.addr b off s.length c i 1 (by kernel_rfl) hlt ?_
  refine G.loadU none b (off + i * 1) (.int .u8 (n : Int)) (by kernel_rfl) (by kernel_rfl) e ?_
  by_cases hle : 97 ≤ n ∧ n ≤ 122
  ·refine G.cmpG .geq .u8 (n : Int) 97 true (by kernel_rfl) rfl (by simp [cmpZ]; omega) ?_
   refine G.cmpG .leq .u8 (n : Int) 122 true (by kernel_rfl) rfl (by simp [cmpZ]; omega) ?_
   refine G.add (i : Int) 1 ((i + 1 : Nat) : Int) (by kernel_rfl) (by omega) (by omega) (by omega) ?_
   exact G.back (by kernel_rfl) (hJ (i + 1) _ _ _ ⟨by kernel_rfl, by kernel_rfl, by kernel_rfl⟩ l2 ⟨by omega, rfl⟩ (by omega))
  ·obtain ⟨hi0, hd⟩ := hw.resolve_left hle
   by_cases h97 : 97 ≤ n
   ·refine G.cmpG .geq .u8 (n : Int) 97 true (by kernel_rfl) rfl (by simp [cmpZ]; omega) ?_
    refine G.cmpG .leq .u8 (n : Int) 122 false (by kernel_rfl) rfl (by simp [cmpZ]; omega) ?_
    refine G.eqlF (i : Int) 0 (by kernel_rfl) (by omega) ?_
    by_cases h45 : n = 45
    ·refine G.cmpG .neq .u8 (n : Int) 45 false (by kernel_rfl) rfl (by simp [cmpZ]; omega) ?_
     refine G.add (i : Int) 1 ((i + 1 : Nat) : Int) (by kernel_rfl) (by omega) (by omega) (by omega) ?_
     exact G.back (by kernel_rfl) (hJ (i + 1) _ _ _ ⟨by kernel_rfl, by kernel_rfl, by kernel_rfl⟩ l2 ⟨by omega, rfl⟩ (by omega))
    ·refine G.cmpG .neq .u8 (n : Int) 45 true (by kernel_rfl) rfl (by simp [cmpZ]; omega) ?_
     refine G.cmpG .lss .u8 (n : Int) 48 false (by kernel_rfl) rfl (by simp [cmpZ]; omega) ?_
     refine G.cmpG .gtr .u8 (n : Int) 57 false (by kernel_rfl) rfl (by simp [cmpZ]; omega) ?_
     refine G.add (i : Int) 1 ((i + 1 : Nat) : Int) (by kernel_rfl) (by omega) (by omega) (by omega) ?_
     exact G.back (by kernel_rfl) (hJ (i + 1) _ _ _ ⟨by kernel_rfl, by kernel_rfl, by kernel_rfl⟩ l2 ⟨by omega, rfl⟩ (by omega))
   ·refine G.cmpG .geq .u8 (n : Int) 97 false (by kernel_rfl) rfl (by simp [cmpZ]; omega) ?_
    refine G.eqlF (i : Int) 0 (by kernel_rfl) (by omega) ?_
    by_cases h45 : n = 45
    ·refine G.cmpG .neq .u8 (n : Int) 45 false (by kernel_rfl) rfl (by simp [cmpZ]; omega) ?_
     refine G.add (i : Int) 1 ((i + 1 : Nat) : Int) (by kernel_rfl) (by omega) (by omega) (by omega) ?_
     exact G.back (by kernel_rfl) (hJ (i + 1) _ _ _ ⟨by kernel_rfl, by kernel_rfl, by kernel_rfl⟩ l2 ⟨by omega, rfl⟩ (by omega))
    ·refine G.cmpG .neq .u8 (n : Int) 45 true (by kernel_rfl) rfl (by simp [cmpZ]; omega) ?_
     refine G.cmpG .lss .u8 (n : Int) 48 false (by kernel_rfl) rfl (by simp [cmpZ]; omega) ?_
     refine G.cmpG .gtr .u8 (n : Int) 57 false (by kernel_rfl) rfl (by simp [cmpZ]; omega) ?_
     refine G.add (i : Int) 1 ((i + 1 : Nat) : Int) (by kernel_rfl) (by omega) (by omega) (by omega) ?_
     exact G.back (by kernel_rfl) (hJ (i + 1) _ _ _ ⟨by kernel_rfl, by kernel_rfl, by kernel_rfl⟩ l2 ⟨by omega, rfl⟩ (by omega))
 ·obtain rfl : i = s.length := by omega
  refine G.lssF (s.length : Int) (s.length : Int) (by kernel_rfl) (by omega) ?_
  have hq : ∀ x : Int, x = (s.length : Int) → 1 ≤ x ∧ x ≤ 12 := fun x hx => by omega
  refine G.geqT (s.length : Int) 1 (by kernel_rfl) (by omega) ?_
  refine G.leqT (s.length : Int) 12 (by kernel_rfl) (by omega) ?_
  exact G.ret (.bool true) (by kernel_rfl) ⟨rfl, rfl⟩
theorem param0 {u : PH} {p : Par} (h : PV p) : Fn0 Tryz.prog 68 [parV p] u fun v _ => v = .bool true := by
 refine Fn0.of Tryz.func68 (by kernel_rfl) (by kernel_rfl) ?_
 refine G.geqT p.1 (-1) (by kernel_rfl) (by have := h.lo; omega) ?_
 by_cases hc : p.2 = []
 ·refine G.eqST p.2 [] (by kernel_rfl) hc ?_
  exact G.ret (.bool true) (by kernel_rfl) ⟨rfl, rfl⟩
 ·refine G.eqSF p.2 [] (by kernel_rfl) hc ?_
  refine G.call0 _ _ (by kernel_rfl) Tryz.call131 (word0 (h.cat.resolve_left hc)) ?_
  rintro v1 u1 l1 rfl
  exact G.ret (.bool true) (by kernel_rfl) ⟨rfl, rfl⟩
theorem bad1 {u : PH} {x : Par × Rat} (h : PV x.1) (hx : Tx x.2) (h0 : x.2 ≠ 0) : Fn0 Tryz.prog 67 [termV x] u fun v _ => v = .bool false := by
 refine Fn0.of Tryz.func67 (by kernel_rfl) (by kernel_rfl) ?_
 refine G.call0 _ _ (by kernel_rfl) Tryz.call68 (param0 h) ?_
 rintro v1 u1 l1 rfl
 refine G.call0 _ _ (by kernel_rfl) Tryz.call69 (entry0 hx h0) ?_
 rintro v2 u2 l2 rfl
 exact G.ret (.bool false) (by kernel_rfl) ⟨rfl, rfl⟩
theorem bad2 {u : PH} {x : (Par × Par) × Rat} (h : PV x.1.1) (h' : PV x.1.2) (ho : ¬ 0 < cmpP x.1.1 x.1.2) (hx : Tx x.2) (h0 : x.2 ≠ 0) : Fn0 Tryz.prog 71 [prtV x] u fun v _ => v = .bool false := by
 refine Fn0.of Tryz.func71 (by kernel_rfl) (by kernel_rfl) ?_
 refine G.call0 _ _ (by kernel_rfl) Tryz.call68 (param0 h) ?_
 rintro v1 u1 l1 rfl
 refine G.call0 _ _ (by kernel_rfl) Tryz.call68 (param0 h') ?_
 rintro v2 u2 l2 rfl
 refine G.call0 _ _ (by kernel_rfl) Tryz.call42 (less0 x.1.2 x.1.1 false (decide_eq_false fun e => ho ((ordP.sym _ _).1 e))) ?_
 rintro v3 u3 l3 rfl
 refine G.call0 _ _ (by kernel_rfl) Tryz.call69 (entry0 hx h0) ?_
 rintro v4 u4 l4 rfl
 exact G.ret (.bool false) (by kernel_rfl) ⟨rfl, rfl⟩
theorem lessT0 {u : PH} {x y : Par × Rat} (h : cmpP x.1 y.1 < 0) : Fn0 Tryz.prog 73 [termV x, termV y] u fun v _ => v = .bool true := by
 refine Fn0.of Tryz.func73 (by kernel_rfl) (by kernel_rfl) ?_
 refine G.call0 _ _ (by kernel_rfl) Tryz.call42 (less0 x.1 y.1 true (decide_eq_true h)) ?_
 rintro v1 u1 l1 rfl
 exact G.ret (.bool true) (by kernel_rfl) ⟨rfl, rfl⟩
theorem lessQ0 {u : PH} {x y : (Par × Par) × Rat} (h : cmpQ x.1 y.1 < 0) : Fn0 Tryz.prog 75 [prtV x, prtV y] u fun v _ => v = .bool true := by
 refine Fn0.of Tryz.func75 (by kernel_rfl) (by kernel_rfl) ?_
 by_cases h1 : cmpP x.1.1 y.1.1 < 0
 ·refine G.call0 _ _ (by kernel_rfl) Tryz.call42 (less0 x.1.1 y.1.1 true (decide_eq_true h1)) ?_
  rintro v1 u1 l1 rfl
  exact G.ret (.bool true) (by kernel_rfl) ⟨rfl, rfl⟩
 ·have h2 : cmpP x.1.1 y.1.1 = 0 ∧ cmpP x.1.2 y.1.2 < 0 := by
   unfold cmpQ at h
   split at h
   ·exact absurd h h1
   ·rename_i e; exact ⟨by simpa using e, h⟩
  have he := ordP.eq _ _ h2.1
  refine G.call0 _ _ (by kernel_rfl) Tryz.call42 (less0 x.1.1 y.1.1 false (decide_eq_false h1)) ?_
  rintro v1 u1 l1 rfl
  refine G.eqAgg 55 #[.int .i64 x.1.1.1, .string (mkS x.1.1.2)] #[.int .i64 y.1.1.1, .string (mkS y.1.1.2)] true (by kernel_rfl) (by kernel_rfl) (by kernel_rfl) (fun w => by rw [← decide_eq_true he]; exact keyPar.eq x.1.1 y.1.1 w) ?_
  refine G.call0 _ _ (by kernel_rfl) Tryz.call42 (less0 x.1.2 y.1.2 true (decide_eq_true h2.2)) ?_
  rintro v2 u2 l2 rfl
  exact G.ret (.bool true) (by kernel_rfl) ⟨rfl, rfl⟩
theorem tIndex0 {u : PH} {v : Value} {T : List (Par × Rat)} {fid : Nat} (h : ListP u v 3 (T.map termV)) (hl : T.length ≤ 1000000)
  (hcall : ∀ args w, (callFunc fid args).run Tryz.prog w = .ok (.enter fid args) w) (hf : ∀ p ∈ T, ∀ u', PH.le u u' → Fn0 Tryz.prog fid [termV p] u' fun v _ => v = .bool false) :
  Fn0 Tryz.prog 76 [v, .func (.func fid) #[] #[]] u fun v' _ => v' = .int .i64 (-1) := by
 obtain ⟨a, c, rfl⟩ := h.opn
 rw [List.length_map] at h ⊢
 refine Fn0.of Tryz.func76 (by kernel_rfl) (by kernel_rfl) ?_
 refine G.loop (ι := Nat) (fun i => [(0, .v (.slice a T.length c)), (1, .v (.func (.func fid) #[] #[])), (7, .v (.int .i64 (T.length : Int))), (8, .v (.int .i64 (i : Int)))]) (fun _ => [])
  (fun i u' m' => i ≤ T.length ∧ m' = PH.mt) (fun i => T.length - i) 0 (by kernel_rfl) (fun _ => by kernel_rfl) ⟨by kernel_rfl, by kernel_rfl, by kernel_rfl⟩ ⟨by omega, rfl⟩ ?_
 rintro J i hJ u1 m1 l1 ⟨hi, rfl⟩
 by_cases hlt : i < T.length
 ·refine G.lssT (i : Int) (T.length : Int) (by kernel_rfl) (by omega) ?_
  have hTi : T[i]? = some T[i] := List.getElem?_eq_getElem hlt
  obtain ⟨ba, oa, rfl, ea⟩ := ListP.at' (h.mono l1) (j := i) (e := termV T[i]) (by simp [hTi])
  refine G.addr ba oa T.length c i 3 (by kernel_rfl) (by omega) ?_
  refine G.loadU (some 3) ba (oa + i * 3) (termV T[i]) (by kernel_rfl) (by kernel_rfl) ea ?_
  refine G.call0 fid [termV T[i]] (by kernel_rfl) hcall (hf T[i] (List.getElem_mem hlt) u1 l1) ?_
  rintro v2 u2 l2 rfl
  refine G.add (i : Int) 1 ((i + 1 : Nat) : Int) (by kernel_rfl) (by omega) (by omega) (by omega) ?_
  exact G.back (by kernel_rfl) (hJ (i + 1) _ _ _ ⟨by kernel_rfl, by kernel_rfl, by kernel_rfl⟩ (l1.trans l2) ⟨by omega, rfl⟩ (by omega))
 ·obtain rfl : i = T.length := by omega
  refine G.lssF (T.length : Int) (T.length : Int) (by kernel_rfl) (by omega) ?_
  exact G.ret (.int .i64 (-1)) (by kernel_rfl) ⟨rfl, rfl⟩
theorem tContains0 {u : PH} {v : Value} {T : List (Par × Rat)} {fid : Nat} (h : ListP u v 3 (T.map termV)) (hl : T.length ≤ 1000000)
  (hcall : ∀ args w, (callFunc fid args).run Tryz.prog w = .ok (.enter fid args) w) (hf : ∀ p ∈ T, ∀ u', PH.le u u' → Fn0 Tryz.prog fid [termV p] u' fun v _ => v = .bool false) :
  Fn0 Tryz.prog 33 [v, .func (.func fid) #[] #[]] u fun v' _ => v' = .bool false := by
 obtain ⟨a, c, rfl⟩ := h.opn
 refine Fn0.of Tryz.func33 (by kernel_rfl) (by kernel_rfl) ?_
 refine G.call0 _ _ (by kernel_rfl) Tryz.call76 (tIndex0 h hl hcall hf) ?_
 rintro v1 u1 l1 rfl
 refine G.geqF (-1) 0 (by kernel_rfl) (by omega) ?_
 exact G.ret (.bool false) (by kernel_rfl) ⟨rfl, rfl⟩
theorem tAscending0 {u : PH} {v : Value} {T : List (Par × Rat)} {fid : Nat} (h : ListP u v 3 (T.map termV)) (hl : T.length ≤ 1000000)
  (hcall : ∀ args w, (callFunc fid args).run Tryz.prog w = .ok (.enter fid args) w) (hf : ∀ (i : Nat) x y, T[i]? = some x → T[i + 1]? = some y → ∀ u', Fn0 Tryz.prog fid [termV x, termV y] u' fun v _ => v = .bool true) :
  Fn0 Tryz.prog 72 [v, .func (.func fid) #[] #[]] u fun v' _ => v' = .bool true := by
 obtain ⟨a, c, rfl⟩ := h.opn
 rw [List.length_map] at h ⊢
 refine Fn0.of Tryz.func72 (by kernel_rfl) (by kernel_rfl) ?_
 refine G.loop (ι := Nat) (fun i => [(0, .v (.slice a T.length c)), (1, .v (.func (.func fid) #[] #[])), (5, .v (.int .i64 ((i + 1 : Nat) : Int)))]) (fun _ => [])
  (fun i u' m' => i ≤ T.length ∧ m' = PH.mt) (fun i => T.length - i) 0 (by kernel_rfl) (fun _ => by kernel_rfl) ⟨by kernel_rfl, by kernel_rfl, by kernel_rfl⟩ ⟨by omega, rfl⟩ ?_
 rintro J i hJ u1 m1 l1 ⟨hi, rfl⟩
 by_cases hlt : i + 1 < T.length
 ·refine G.lssT ((i + 1 : Nat) : Int) (T.length : Int) (by kernel_rfl) (by omega) ?_
  have hTi : T[i]? = some T[i] := List.getElem?_eq_getElem (by omega)
  have hTj : T[i + 1]? = some T[i + 1] := List.getElem?_eq_getElem hlt
  obtain ⟨ba, oa, rfl, ea⟩ := ListP.at' (h.mono l1) (j := i) (e := termV T[i]) (by simp [hTi])
  obtain ⟨_, _, e', eb⟩ := ListP.at' (h.mono l1) (j := i + 1) (e := termV T[i + 1]) (by simp [hTj])
  cases e'
  refine G.sub ((i + 1 : Nat) : Int) 1 (i : Int) (by kernel_rfl) (by omega) (by omega) (by omega) ?_
  refine G.addr ba oa T.length c i 3 (by kernel_rfl) (by omega) ?_
  refine G.loadU (some 3) ba (oa + i * 3) (termV T[i]) (by kernel_rfl) (by kernel_rfl) ea ?_
  refine G.addr ba oa T.length c (i + 1) 3 (by kernel_rfl) (by omega) ?_
  refine G.loadU (some 3) ba (oa + (i + 1) * 3) (termV T[i + 1]) (by kernel_rfl) (by kernel_rfl) eb ?_
  refine G.call0 fid [termV T[i], termV T[i + 1]] (by kernel_rfl) hcall (hf i _ _ hTi hTj u1) ?_
  rintro v2 u2 l2 rfl
  refine G.add ((i + 1 : Nat) : Int) 1 ((i + 1 + 1 : Nat) : Int) (by kernel_rfl) (by omega) (by omega) (by omega) ?_
  exact G.back (by kernel_rfl) (hJ (i + 1) _ _ _ ⟨by kernel_rfl, by kernel_rfl, by kernel_rfl⟩ (l1.trans l2) ⟨by omega, rfl⟩ (by omega))
 ·refine G.lssF ((i + 1 : Nat) : Int) (T.length : Int) (by kernel_rfl) (by omega) ?_
  exact G.ret (.bool true) (by kernel_rfl) ⟨rfl, rfl⟩
theorem qIndex0 {u : PH} {v : Value} {T : List ((Par × Par) × Rat)} {fid : Nat} (h : ListP u v 5 (T.map prtV)) (hl : T.length ≤ 1000000)
  (hcall : ∀ args w, (callFunc fid args).run Tryz.prog w = .ok (.enter fid args) w) (hf : ∀ p ∈ T, ∀ u', PH.le u u' → Fn0 Tryz.prog fid [prtV p] u' fun v _ => v = .bool false) :
  Fn0 Tryz.prog 132 [v, .func (.func fid) #[] #[]] u fun v' _ => v' = .int .i64 (-1) := by
 obtain ⟨a, c, rfl⟩ := h.opn
 rw [List.length_map] at h ⊢
 refine Fn0.of Tryz.func132 (by kernel_rfl) (by kernel_rfl) ?_
 refine G.loop (ι := Nat) (fun i => [(0, .v (.slice a T.length c)), (1, .v (.func (.func fid) #[] #[])), (7, .v (.int .i64 (T.length : Int))), (8, .v (.int .i64 (i : Int)))]) (fun _ => [])
  (fun i u' m' => i ≤ T.length ∧ m' = PH.mt) (fun i => T.length - i) 0 (by kernel_rfl) (fun _ => by kernel_rfl) ⟨by kernel_rfl, by kernel_rfl, by kernel_rfl⟩ ⟨by omega, rfl⟩ ?_
 rintro J i hJ u1 m1 l1 ⟨hi, rfl⟩
 by_cases hlt : i < T.length
 ·refine G.lssT (i : Int) (T.length : Int) (by kernel_rfl) (by omega) ?_
  have hTi : T[i]? = some T[i] := List.getElem?_eq_getElem hlt
  obtain ⟨ba, oa, rfl, ea⟩ := ListP.at' (h.mono l1) (j := i) (e := prtV T[i]) (by simp [hTi])
  refine G.addr ba oa T.length c i 5 (by kernel_rfl) (by omega) ?_
  refine G.loadU (some 5) ba (oa + i * 5) (prtV T[i]) (by kernel_rfl) (by kernel_rfl) ea ?_
  refine G.call0 fid [prtV T[i]] (by kernel_rfl) hcall (hf T[i] (List.getElem_mem hlt) u1 l1) ?_
  rintro v2 u2 l2 rfl
  refine G.add (i : Int) 1 ((i + 1 : Nat) : Int) (by kernel_rfl) (by omega) (by omega) (by omega) ?_
  exact G.back (by kernel_rfl) (hJ (i + 1) _ _ _ ⟨by kernel_rfl, by kernel_rfl, by kernel_rfl⟩ (l1.trans l2) ⟨by omega, rfl⟩ (by omega))
 ·obtain rfl : i = T.length := by omega
  refine G.lssF (T.length : Int) (T.length : Int) (by kernel_rfl) (by omega) ?_
  exact G.ret (.int .i64 (-1)) (by kernel_rfl) ⟨rfl, rfl⟩
theorem qContains0 {u : PH} {v : Value} {T : List ((Par × Par) × Rat)} {fid : Nat} (h : ListP u v 5 (T.map prtV)) (hl : T.length ≤ 1000000)
  (hcall : ∀ args w, (callFunc fid args).run Tryz.prog w = .ok (.enter fid args) w) (hf : ∀ p ∈ T, ∀ u', PH.le u u' → Fn0 Tryz.prog fid [prtV p] u' fun v _ => v = .bool false) :
  Fn0 Tryz.prog 70 [v, .func (.func fid) #[] #[]] u fun v' _ => v' = .bool false := by
 obtain ⟨a, c, rfl⟩ := h.opn
 refine Fn0.of Tryz.func70 (by kernel_rfl) (by kernel_rfl) ?_
 refine G.call0 _ _ (by kernel_rfl) Tryz.call132 (qIndex0 h hl hcall hf) ?_
 rintro v1 u1 l1 rfl
 refine G.geqF (-1) 0 (by kernel_rfl) (by omega) ?_
 exact G.ret (.bool false) (by kernel_rfl) ⟨rfl, rfl⟩
theorem qAscending0 {u : PH} {v : Value} {T : List ((Par × Par) × Rat)} {fid : Nat} (h : ListP u v 5 (T.map prtV)) (hl : T.length ≤ 1000000)
  (hcall : ∀ args w, (callFunc fid args).run Tryz.prog w = .ok (.enter fid args) w) (hf : ∀ (i : Nat) x y, T[i]? = some x → T[i + 1]? = some y → ∀ u', Fn0 Tryz.prog fid [prtV x, prtV y] u' fun v _ => v = .bool true) :
  Fn0 Tryz.prog 74 [v, .func (.func fid) #[] #[]] u fun v' _ => v' = .bool true := by
 obtain ⟨a, c, rfl⟩ := h.opn
 rw [List.length_map] at h ⊢
 refine Fn0.of Tryz.func74 (by kernel_rfl) (by kernel_rfl) ?_
 refine G.loop (ι := Nat) (fun i => [(0, .v (.slice a T.length c)), (1, .v (.func (.func fid) #[] #[])), (5, .v (.int .i64 ((i + 1 : Nat) : Int)))]) (fun _ => [])
  (fun i u' m' => i ≤ T.length ∧ m' = PH.mt) (fun i => T.length - i) 0 (by kernel_rfl) (fun _ => by kernel_rfl) ⟨by kernel_rfl, by kernel_rfl, by kernel_rfl⟩ ⟨by omega, rfl⟩ ?_
 rintro J i hJ u1 m1 l1 ⟨hi, rfl⟩
 by_cases hlt : i + 1 < T.length
 ·refine G.lssT ((i + 1 : Nat) : Int) (T.length : Int) (by kernel_rfl) (by omega) ?_
  have hTi : T[i]? = some T[i] := List.getElem?_eq_getElem (by omega)
  have hTj : T[i + 1]? = some T[i + 1] := List.getElem?_eq_getElem hlt
  obtain ⟨ba, oa, rfl, ea⟩ := ListP.at' (h.mono l1) (j := i) (e := prtV T[i]) (by simp [hTi])
  obtain ⟨_, _, e', eb⟩ := ListP.at' (h.mono l1) (j := i + 1) (e := prtV T[i + 1]) (by simp [hTj])
  cases e'
  refine G.sub ((i + 1 : Nat) : Int) 1 (i : Int) (by kernel_rfl) (by omega) (by omega) (by omega) ?_
  refine G.addr ba oa T.length c i 5 (by kernel_rfl) (by omega) ?_
  refine G.loadU (some 5) ba (oa + i * 5) (prtV T[i]) (by kernel_rfl) (by kernel_rfl) ea ?_
  refine G.addr ba oa T.length c (i + 1) 5 (by kernel_rfl) (by omega) ?_
  refine G.loadU (some 5) ba (oa + (i + 1) * 5) (prtV T[i + 1]) (by kernel_rfl) (by kernel_rfl) eb ?_
  refine G.call0 fid [prtV T[i], prtV T[i + 1]] (by kernel_rfl) hcall (hf i _ _ hTi hTj u1) ?_
  rintro v2 u2 l2 rfl
  refine G.add ((i + 1 : Nat) : Int) 1 ((i + 1 + 1 : Nat) : Int) (by kernel_rfl) (by omega) (by omega) (by omega) ?_
  exact G.back (by kernel_rfl) (hJ (i + 1) _ _ _ ⟨by kernel_rfl, by kernel_rfl, by kernel_rfl⟩ (l1.trans l2) ⟨by omega, rfl⟩ (by omega))
 ·refine G.lssF ((i + 1 : Nat) : Int) (T.length : Int) (by kernel_rfl) (by omega) ?_
  exact G.ret (.bool true) (by kernel_rfl) ⟨rfl, rfl⟩
theorem sort_step {κ : Type} {c : κ → κ → Int} {T : List (κ × Rat)} (h : SortK c (T.map (·.1))) {i : Nat} {x y : κ × Rat} (hx : T[i]? = some x) (hy : T[i + 1]? = some y) : c x.1 y.1 < 0 := by
 obtain ⟨h1, rfl⟩ := List.getElem?_eq_some_iff.1 hx
 obtain ⟨h2, rfl⟩ := List.getElem?_eq_some_iff.1 hy
 have := List.pairwise_iff_getElem.1 h i (i + 1) (by simpa using h1) (by simpa using h2) (by omega)
 simpa using this
theorem valid0 {u : PH} {v : Value} {F : CF} {K : Nat} (hv : CofP u v F K) (sF : CFS F) (vF : CFV F) (hK : K ≤ 1000000) : Fn0 Tryz.prog 32 [v] u fun v' _ => v' = .bool true := by
 obtain ⟨T, Q, a1, c1, a2, c2, rfl, hT, hQ, cT, cQ, kT, kQ⟩ := hv
 refine Fn0.of Tryz.func32 (by kernel_rfl) (by kernel_rfl) ?_
 refine G.call0 _ _ (by kernel_rfl) Tryz.call66 (ratValid0 (SB.tx sF.c)) ?_
 rintro v1 u1 l1 rfl
 refine G.call0 _ _ (by kernel_rfl) Tryz.call33 (tContains0 (fid := 67) (hT.mono l1) (by omega) Tryz.call67 (fun p hp u' _ => by
  obtain ⟨e1, e2⟩ := cT.val p hp
  exact bad1 (vF.s _ (by rw [← e1]; exact e2)) (SB.tx (by rw [e1]; exact sF.s _)) e2)) ?_
 rintro v2 u2 l2 rfl
 refine G.call0 _ _ (by kernel_rfl) Tryz.call70 (qContains0 (fid := 71) (hQ.mono (l1.trans l2)) (by omega) Tryz.call71 (fun p hp u' _ => by
  obtain ⟨e1, e2⟩ := cQ.val p hp
  obtain ⟨f1, f2, f3⟩ := vF.t p.1 (by rw [← e1]; exact e2)
  exact bad2 f1 f2 f3 (SB.tx (by rw [e1]; exact sF.t _)) e2)) ?_
 rintro v3 u3 l3 rfl
 refine G.call0 _ _ (by kernel_rfl) Tryz.call72 (tAscending0 (fid := 73) (hT.mono ((l1.trans l2).trans l3)) (by omega) Tryz.call73 (fun i x y hx hy u' => lessT0 (sort_step cT.srt hx hy))) ?_
 rintro v4 u4 l4 rfl
 refine G.call0 _ _ (by kernel_rfl) Tryz.call74 (qAscending0 (fid := 75) (hQ.mono (((l1.trans l2).trans l3).trans l4)) (by omega) Tryz.call75 (fun i x y hx hy u' => lessQ0 (sort_step cQ.srt hx hy))) ?_
 rintro v5 u5 l5 rfl
 exact G.ret (.bool true) (by kernel_rfl) ⟨rfl, rfl⟩
end Go.Proofs.YtpdboaedoimahaaGreatDoor
end
section
set_option linter.unusedSectionVars false
set_option linter.unusedVariables false
namespace Go.Proofs.YtpdboaedoimahaaGreatDoor
open Go.RowKit Go.MapKept
section
variable {P : Program}
theorem run_eq_leaf {t : TypeId} (h : P.underlying t = some .string) (d : Nat) (s : List UInt8) (w : World) : (Op.equalIn (d + 1) t (.string (mkS s)) (.string (mkS s))).run P w = .ok true w := by
 rw [run_equalIn_string w d _ _ _ h, mkS_beq]; simp
theorem run_eq_tm {t tp ti ts tr : TypeId} {k : IntKind} (hf : (P.fieldsOf t).toList.map fldOf = [(true, tp, 0), (true, tr, 2)]) (ht : P.underlying t = some (.struct (P.fieldsOf t))) (hp : P.stoodInHeld t = false)
  (hf' : (P.fieldsOf tp).toList.map fldOf = [(true, ti, 0), (true, ts, 1)]) (ht' : P.underlying tp = some (.struct (P.fieldsOf tp))) (hp' : P.stoodInHeld tp = false) (hsz : szB P tp = some 2) (hi : P.underlying ti = some (.int k)) (hs : P.underlying ts = some .string) (hr : P.underlying tr = some .string) (d : Nat) (x : Par × Rat) (w : World) :
  (Op.equalIn (d + 3) t (termV x) (termV x)).run P w = .ok true w := by
 have hag : aggB P tp = some true := by unfold aggB; rw [ht']
 unfold termV
 rw [run_equalIn_struct w (d + 2) t _ _ ht hp]
 generalize (P.fieldsOf t).toList = fs at hf
 obtain ⟨f, g, hfs⟩ := twoList hf
 subst hfs
 simp only [List.map_cons, List.map_nil, List.cons.injEq, fldOf, Prod.mk.injEq, bne_iff_ne, ne_eq, and_true] at hf
 obtain ⟨⟨n1, e1, o1⟩, n2, e2, o2⟩ := hf
 obtain ⟨⟨a1, a2⟩, a3⟩ := x
 simp only [Op.eqFields, ne_eq, n1, n2, not_false_eq_true, if_true, Sem.run_bind, e1, e2, o1, o2]
 rw [run_partN hag hsz, Result.andThen_ok, run_partN hag hsz, Result.andThen_ok]
 have q1 := run_eq_par hf' ht' hp' hi hs d (a1, a2) (a1, a2) w
 unfold parV at q1
 have x1 : (#[Value.int .i64 a1, .string (mkS a2), .string (mkS (ratT a3))].extract 0 (0 + 2)) = #[.int .i64 a1, .string (mkS a2)] := rfl
 simp only [x1, q1, Result.andThen_ok, decide_true, Bool.not_true, Bool.false_eq_true, if_false, Sem.run_bind]
 rw [run_part1 (und_of_str hr) (v := .string (mkS (ratT a3))) rfl, Result.andThen_ok, run_part1 (und_of_str hr) (v := .string (mkS (ratT a3))) rfl, Result.andThen_ok, run_eq_leaf hr]
 simp
end
theorem eqTerm (x : Par × Rat) (w : World) : (Op.equal 57 (termV x) (termV x)).run Tryz.prog w = .ok true w :=
 run_eq_tm (P := Tryz.prog) (t := 57) (tp := 55) (ti := 3) (ts := 9) (tr := 34) (k := .i64) (by kernel_rfl) (by kernel_rfl) (by kernel_rfl) (by kernel_rfl) (by kernel_rfl) (by kernel_rfl) (by kernel_rfl) (by kernel_rfl) (by kernel_rfl) (by kernel_rfl) 9997 x w
def RngP (u : PH) (v : Value) (F : CF) (K : Nat) : Prop := ∃ r, v = .tuple #[r, .int .i64 0] ∧ CofP u r F K
theorem CofP.opn {u : PH} {v : Value} {F : CF} {K : Nat} (h : CofP u v F K) : ∃ a1 n1 c1 a2 n2 c2, v = .agg #[.string (mkS (ratT F.c)), .slice a1 n1 c1, .slice a2 n2 c2] := by
 obtain ⟨T, Q, a1, c1, a2, c2, rfl, _⟩ := h
 exact ⟨_, _, _, _, _, _, rfl⟩
def CF.num (k : Rat) : CF := ⟨k, fun _ => 0, fun _ => 0⟩
theorem cofP_num (u : PH) (k : Rat) : CofP u (.agg #[.string (mkS (ratT k)), .slice none 0 0, .slice none 0 0]) (CF.num k) 0 :=
 ⟨[], [], none, 0, none, 0, rfl, ListP.nil _ _ _ _, ListP.nil _ _ _ _, ⟨List.Pairwise.nil, fun p hp => by simp at hp, fun _ _ => rfl⟩, ⟨List.Pairwise.nil, fun p hp => by simp at hp, fun _ _ => rfl⟩, Nat.le_refl _, Nat.le_refl _⟩
end Go.Proofs.YtpdboaedoimahaaGreatDoor
end
section
set_option linter.unusedSectionVars false
set_option linter.unusedVariables false
namespace Go.Proofs.YtpdboaedoimahaaGreatDoor
open Go.RowKit Go.MapKept
section rules
variable [Flag] {P : Program} [Mixed P] {fn : Func} {Post : Spec} {st : List KI × S} {u m : PH}
def FnK (P : Program) (f : FuncId) (args : List Value) (u m : PH) (R : Value → PH → Prop) : Prop := Contract P f args u m fun v u' m' => m' = m ∧ R v u'
theorem FnK.of {R : Value → PH → Prop} {f : FuncId} {args : List Value} (hf : P.funcs[f]? = some fn) (hb : fn.body.isSome = true) (hn : Nat.ble args.length fn.ntmps = true) (h : G P fn ⟨fun v u' m' => m' = m ∧ R v u', m⟩ (st0 fn args) u m) : FnK P f args u m R := Contract.of hf hb hn h
theorem G.callK (f : Nat) (args : List Value) {R : Value → PH → Prop} (h : stopV P (adv P st) = .call f args) (hc : ∀ args w, (callFunc f args).run P w = .ok (.enter f args) w) (c : FnK P f args u m R)
  (k : ∀ v u', PH.le u u' → R v u' → G P fn Post (nx (adv P st) v) u' m) : G P fn Post st u m := by
 refine G.big (K := fun v u' m' => m' = m ∧ R v u') h (by simp) view_call_free (.inl fun v u' m' hK => by rw [hK.1]; exact fun g o hg => hg) (fun env o hview w hgd => ?_) (fun v u' m' h1 h2 => ?_)
 ·refine does_call hview hc w _ (Calls.mono (c w hgd) fun e w' he => ?_)
  obtain ⟨v, u', m', e1, e2, e3, e4⟩ := he
  exact ⟨v, e1, u', m', e2, e3, e4⟩
 ·obtain ⟨rfl, hR⟩ := h2; exact k v u' h1 hR
end rules
section
theorem sIndex0 {u m : PH} {b n c : Nat} {x : List UInt8} (L : List (List UInt8)) (hn : n ≤ L.length) (hl : n ≤ 1000000) (hE : ∀ j s, L[j]? = some s → ElP m b (0 + j * 1) (.string (mkS s))) (hx : ∀ j s, j < n → L[j]? = some s → s ≠ x) :
  FnK Tryz.prog 208 [.slice (some ⟨b, 0, none⟩) n c, .string (mkS x)] u m fun v _ => v = .int .i64 (-1) := by
 refine FnK.of Tryz.func208 (by kernel_rfl) (by kernel_rfl) ?_
 refine G.loop (ι := Nat) (fun i => [(0, .v (.slice (some ⟨b, 0, none⟩) n c)), (1, .v (.string (mkS x))), (7, .v (.int .i64 (n : Int))), (8, .v (.int .i64 (i : Int)))]) (fun _ => [])
  (fun i u' m' => i ≤ n ∧ m' = m) (fun i => n - i) 0 (by kernel_rfl) (fun _ => by kernel_rfl) ⟨by kernel_rfl, by kernel_rfl, by kernel_rfl⟩ ⟨by omega, rfl⟩ ?_
 rintro J i hJ u1 m1 l1 ⟨hi, rfl⟩
 by_cases hlt : i < n
 ·refine G.lssT (i : Int) (n : Int) (by kernel_rfl) (by omega) ?_
  have hTi : L[i]? = some L[i] := List.getElem?_eq_getElem (by omega)
  refine G.addr b 0 n c i 1 (by kernel_rfl) hlt ?_
  refine G.loadM none b (0 + i * 1) (.string (mkS L[i])) (by kernel_rfl) (by kernel_rfl) (hE i _ hTi) ?_
  refine G.eqSF x L[i] (by kernel_rfl) (fun e => hx i _ hlt hTi e.symm) ?_
  refine G.add (i : Int) 1 ((i + 1 : Nat) : Int) (by kernel_rfl) (by omega) (by omega) (by omega) ?_
  exact G.back (by kernel_rfl) (hJ (i + 1) _ _ _ ⟨by kernel_rfl, by kernel_rfl, by kernel_rfl⟩ l1 ⟨by omega, rfl⟩ (by omega))
 ·obtain rfl : i = n := by omega
  refine G.lssF (i : Int) (i : Int) (by kernel_rfl) (by omega) ?_
  exact G.ret (.int .i64 (-1)) (by kernel_rfl) ⟨rfl, rfl⟩
theorem sContains0 {u m : PH} {b n c : Nat} {x : List UInt8} (L : List (List UInt8)) (hn : n ≤ L.length) (hl : n ≤ 1000000) (hE : ∀ j s, L[j]? = some s → ElP m b (0 + j * 1) (.string (mkS s))) (hx : ∀ j s, j < n → L[j]? = some s → s ≠ x) :
  FnK Tryz.prog 173 [.slice (some ⟨b, 0, none⟩) n c, .string (mkS x)] u m fun v _ => v = .bool false := by
 refine FnK.of Tryz.func173 (by kernel_rfl) (by kernel_rfl) ?_
 refine G.callK _ _ (by kernel_rfl) Tryz.call208 (sIndex0 (c := c) L hn hl hE hx) ?_
 rintro v1 u1 l1 rfl
 refine G.geqF (-1) 0 (by kernel_rfl) (by omega) ?_
 exact G.ret (.bool false) (by kernel_rfl) ⟨rfl, rfl⟩
structure Names (L : List (List UInt8)) : Prop where
 word : ∀ s ∈ L, wordB s = true
 nodup : L.Nodup
theorem named0 {u m : PH} {b k c : Nat} {x : List UInt8} {L : List (List UInt8)} (h : Names L) (hl : L.length ≤ 1000) (hc : L.length ≤ c) (hk : L[k]? = some x) (hE : ∀ j s, L[j]? = some s → ElP m b (0 + j * 1) (.string (mkS s))) :
  FnK Tryz.prog 121 [.slice (some ⟨b, 0, none⟩) L.length c, .int .i64 (k : Int)] u m fun v _ => v = .int .i64 0 := by
 obtain ⟨hkl, hkx⟩ := List.getElem?_eq_some_iff.1 hk
 refine FnK.of Tryz.func121 (by kernel_rfl) (by kernel_rfl) ?_
 refine G.addr b 0 L.length c k 1 (by kernel_rfl) hkl ?_
 refine G.loadM none b (0 + k * 1) (.string (mkS x)) (by kernel_rfl) (by kernel_rfl) (hE k x hk) ?_
 refine G.call0 _ _ (by kernel_rfl) Tryz.call131 (word0 (h.word x (List.mem_of_getElem? hk))) ?_
 rintro v1 u1 l1 rfl
 refine G.sliceTo 1 (some ⟨b, 0, none⟩) L.length c k (by kernel_rfl) (by omega) ?_
 refine G.addr b 0 L.length c k 1 (by kernel_rfl) hkl ?_
 refine G.loadM none b (0 + k * 1) (.string (mkS x)) (by kernel_rfl) (by kernel_rfl) (hE k x hk) ?_
 refine G.callK _ _ (by kernel_rfl) Tryz.call173 (sContains0 (n := k) (c := c) (x := x) L (by omega) (by omega) hE fun j s hj hs e => ?_) ?_
 ·obtain ⟨hjl, hjx⟩ := List.getElem?_eq_some_iff.1 hs
  have := (List.getElem_inj (h₀ := hjl) (h₁ := hkl) h.nodup).1 (by rw [hjx, hkx, e])
  omega
 rintro v2 u2 l2 rfl
 exact G.ret (.int .i64 0) (by kernel_rfl) ⟨rfl, rfl⟩
def attV (a : List UInt8 × Nat) : Value := .agg #[.string (mkS a.1), .int .i64 (a.2 : Int)]
def nmV (s : List UInt8) : Value := .string (mkS s)
theorem nmV_ok (L : List (List UInt8)) : ElsOK 1 (L.map nmV) := by
 intro e he
 obtain ⟨s, _, rfl⟩ := List.mem_map.1 he
 exact ⟨rfl, List.all_eq_true.1 rfl⟩
end
end Go.Proofs.YtpdboaedoimahaaGreatDoor
end
section
set_option linter.unusedSectionVars false
set_option linter.unusedVariables false
namespace Go.Proofs.YtpdboaedoimahaaGreatDoor
open Go.RowKit Go.MapKept
structure AttOK (T : List (List UInt8 × Nat)) : Prop where
 names : Names (T.map (·.1))
 kind : ∀ a ∈ T, 1 ≤ a.2 ∧ a.2 ≤ 3
theorem Names.take {L : List (List UInt8)} (h : Names L) (k : Nat) : Names (L.take k) := ⟨fun s hs => h.word s (List.mem_of_mem_take hs), h.nodup.sublist (List.take_sublist _ _)⟩
theorem getElem?_snoc_last {α : Type} (l : List α) (x : α) : (l ++ [x])[l.length]? = some x := by simp
set_option maxHeartbeats 1000000 in
theorem attributes0 {u : PH} {v w x y : Value} {T : List (List UInt8 × Nat)} (h : ListP u v 2 (T.map attV)) (ok : AttOK T) (hl : T.length ≤ 1000) (hw : ∃ a n c, w = .slice a n c) (hx : ∃ a n c, x = .slice a n c) (hy : ∃ z : Int, y = .int .i64 z) :
  Fn0 Tryz.prog 63 [.agg #[v, w, x, y]] u fun r _ => r = .int .i64 0 := by
 obtain ⟨a, c, rfl⟩ := h.opn
 obtain ⟨wa, wn, wc, rfl⟩ := hw
 obtain ⟨xa, xn, xc, rfl⟩ := hx
 obtain ⟨z, rfl⟩ := hy
 rw [List.length_map] at h ⊢
 refine Fn0.of Tryz.func63 (by kernel_rfl) (by kernel_rfl) ?_
 refine G.loop (ι := Nat × (Option Addr × Nat × Nat)) (fun i => [(3, .v (.slice i.2.1 i.2.2.1 i.2.2.2)), (8, .v (.slice a T.length c)), (9, .v (.int .i64 (T.length : Int))), (10, .v (.int .i64 (i.1 : Int)))]) (fun _ => [])
  (fun i u' m' => i.1 ≤ T.length ∧ ArrAt PH.mt m' (.slice i.2.1 i.2.2.1 i.2.2.2) 9 1 (((T.map (·.1)).take i.1).map nmV)) (fun i => T.length - i.1) (0, (none, 0, 0)) (by kernel_rfl) (fun _ => by kernel_rfl) ⟨by kernel_rfl, by kernel_rfl, by kernel_rfl⟩ ⟨by simp, ArrAt.nil _ _ _⟩ ?_
 rintro J ⟨i, na, nn, nc⟩ hJ u1 m1 l1 ⟨hi, hA⟩
 simp only at hi hA hJ
 by_cases hlt : i < T.length
 ·refine G.lssT (i : Int) (T.length : Int) (by kernel_rfl) (by omega) ?_
  have hTi : T[i]? = some T[i] := List.getElem?_eq_getElem hlt
  have hki := ok.kind T[i] (List.getElem_mem hlt)
  have htk : ((T.map (·.1)).take (i + 1)) = (T.map (·.1)).take i ++ [T[i].1] := by
   rw [List.take_add_one, List.getElem?_map, hTi]; rfl
  have hnames := ok.names.take (i + 1)
  rw [htk] at hnames
  have hlen : ((T.map (·.1)).take i).length = i := by simp; omega
  generalize hL : (T.map (·.1)).take i = L at hA htk hnames hlen
  obtain ⟨ba, oa, rfl, ea⟩ := ListP.at' (h.mono l1) (j := i) (e := attV T[i]) (by simp [hTi])
  generalize T[i] = q at ea hki htk hnames
  refine G.addr ba oa T.length c i 2 (by kernel_rfl) hlt ?_
  refine G.loadU (some 2) ba (oa + i * 2) (.agg #[.string (mkS q.1), .int .i64 (q.2 : Int)]) (by kernel_rfl) (by kernel_rfl) ea ?_
  refine G.buildU 9 1 16 (.string (mkS [])) [.string (mkS q.1)] (by kernel_rfl) (nmV_ok [q.1]) rfl (by omega) (by simp) (by simp) ?_
  intro g2 u2 l2 e2
  refine G.append 9 1 16 (.string (mkS [])) PH.mt (L.map nmV) [.string (mkS q.1)] (.slice na nn nc) g2 0 1 1 (by kernel_rfl) rfl rfl (by omega) hA e2 (nmV_ok [q.1]) rfl (by omega) (by simp; omega) (by simp; omega) ?_
  intro v3 m3 hA3
  rw [show L.map nmV ++ [.string (mkS q.1)] = (L ++ [q.1]).map nmV by rw [List.map_append]; rfl] at hA3
  obtain ⟨b3, c3, rfl⟩ := hA3.ptr (by simp)
  have hcap := hA3.cap
  rw [List.length_map] at hA3 hcap ⊢
  refine G.callK _ _ (by kernel_rfl) Tryz.call121 (named0 (b := b3) (k := i) (c := c3) (x := q.1) (L := L ++ [q.1]) hnames (by simp; omega) hcap (by rw [← hlen]; exact getElem?_snoc_last L q.1) fun j s hs => hA3.el (by rw [List.getElem?_map, hs]; rfl)) ?_
  rintro v4 u4 l4 rfl
  refine G.neqF 0 0 (by kernel_rfl) (by omega) ?_
  refine G.lssF (q.2 : Int) 1 (by kernel_rfl) (by omega) ?_
  refine G.gtrF (q.2 : Int) 3 (by kernel_rfl) (by omega) ?_
  refine G.add (i : Int) 1 ((i + 1 : Nat) : Int) (by kernel_rfl) (by omega) (by omega) (by omega) ?_
  exact G.back (by kernel_rfl) (hJ (i + 1, (some ⟨b3, 0, none⟩, (L ++ [q.1]).length, c3)) _ _ _ ⟨by kernel_rfl, by kernel_rfl, by kernel_rfl⟩ ((l1.trans l2).trans l4) ⟨by dsimp only; omega, by dsimp only; rw [htk]; exact hA3⟩ (by dsimp only; omega))
 ·obtain rfl : i = T.length := by omega
  refine G.lssF (T.length : Int) (T.length : Int) (by kernel_rfl) (by omega) ?_
  refine G.pastI ?_
  refine G.drop PH.mt (by kernel_rfl) (PH.mt_le _) ?_
  exact G.ret (.int .i64 0) (by kernel_rfl) ⟨rfl, rfl⟩
end Go.Proofs.YtpdboaedoimahaaGreatDoor
end
section
set_option linter.unusedSectionVars false
set_option linter.unusedVariables false
namespace Go.Proofs.YtpdboaedoimahaaGreatDoor
open Go.RowKit Go.MapKept
abbrev Feat : Type := Nat × Nat × Nat
def featV (f : Feat) : Value := .agg #[.int .i64 (f.1 : Int), .int .i64 (f.2.1 : Int), .int .i64 (f.2.2 : Int)]
def idxF {α : Type} (p : α → Bool) (T : List α) : Int := match T.findIdx? p with | some k => (k : Int) | none => -1
theorem idxF_at {α : Type} {p : α → Bool} {T : List α} {i : Nat} (hi : i < T.length) (h : p T[i] = true) (h0 : ∀ j (hj : j < i), p (T[j]'(by omega)) = false) : idxF p T = (i : Int) := by
 have : T.findIdx? p = some i := List.findIdx?_eq_some_iff_getElem.2 ⟨hi, h, fun j hj => by simp [h0 j hj]⟩
 unfold idxF; rw [this]
theorem idxF_no {α : Type} {p : α → Bool} {T : List α} (h0 : ∀ x ∈ T, p x = false) : idxF p T = -1 := by
 have : T.findIdx? p = none := List.findIdx?_eq_none_iff.2 h0
 unfold idxF; rw [this]
theorem fIndex0 {u m : PH} {v cap : Value} {T : List Feat} {fid : Nat} (p : Feat → Bool) (h : ListP u v 3 (T.map featV)) (hl : T.length ≤ 1000000)
  (hcall : ∀ args w, (callFunc fid args).run Tryz.prog w = .ok (.enter fid args) w) (hf : ∀ f ∈ T, ∀ u', PH.le u u' → FnK Tryz.prog fid [featV f, cap] u' m fun v _ => v = .bool (p f)) :
  FnK Tryz.prog 83 [v, .func (.func fid) #[] #[cap]] u m fun v' _ => v' = .int .i64 (idxF p T) := by
 obtain ⟨a, c, rfl⟩ := h.opn
 rw [List.length_map] at h ⊢
 refine FnK.of Tryz.func83 (by kernel_rfl) (by kernel_rfl) ?_
 refine G.loop (ι := Nat) (fun i => [(0, .v (.slice a T.length c)), (1, .v (.func (.func fid) #[] #[cap])), (7, .v (.int .i64 (T.length : Int))), (8, .v (.int .i64 (i : Int)))]) (fun _ => [])
  (fun i u' m' => i ≤ T.length ∧ (∀ j (hj : j < T.length), j < i → p (T[j]'hj) = false) ∧ m' = m) (fun i => T.length - i) 0 (by kernel_rfl) (fun _ => by kernel_rfl) ⟨by kernel_rfl, by kernel_rfl, by kernel_rfl⟩ ⟨by omega, fun j hj h => by omega, rfl⟩ ?_
 rintro J i hJ u1 m1 l1 ⟨hi, h0, rfl⟩
 by_cases hlt : i < T.length
 ·refine G.lssT (i : Int) (T.length : Int) (by kernel_rfl) (by omega) ?_
  have hTi : T[i]? = some T[i] := List.getElem?_eq_getElem hlt
  obtain ⟨ba, oa, rfl, ea⟩ := ListP.at' (h.mono l1) (j := i) (e := featV T[i]) (by simp [hTi])
  refine G.addr ba oa T.length c i 3 (by kernel_rfl) (by omega) ?_
  refine G.loadU (some 3) ba (oa + i * 3) (featV T[i]) (by kernel_rfl) (by kernel_rfl) ea ?_
  refine G.callK fid [featV T[i], cap] (by kernel_rfl) hcall (hf T[i] (List.getElem_mem hlt) u1 l1) ?_
  rintro v2 u2 l2 rfl
  cases hp : p T[i] with
  | true =>
   rw [idxF_at hlt hp fun j hj => h0 j (by omega) hj]
   exact G.ret (.int .i64 (i : Int)) (by kernel_rfl) ⟨rfl, rfl⟩
  | false =>
   refine G.add (i : Int) 1 ((i + 1 : Nat) : Int) (by kernel_rfl) (by omega) (by omega) (by omega) ?_
   exact G.back (by kernel_rfl) (hJ (i + 1) _ _ _ ⟨by kernel_rfl, by kernel_rfl, by kernel_rfl⟩ (l1.trans l2) ⟨by omega, fun j hj h => by
    rcases (by omega : j < i ∨ j = i) with e | rfl
    ·exact h0 j hj e
    ·exact hp, rfl⟩ (by omega))
 ·obtain rfl : i = T.length := by omega
  refine G.lssF (T.length : Int) (T.length : Int) (by kernel_rfl) (by omega) ?_
  rw [idxF_no fun x hx => by obtain ⟨j, hj, rfl⟩ := List.getElem_of_mem hx; exact h0 j hj hj]
  exact G.ret (.int .i64 (-1)) (by kernel_rfl) ⟨rfl, rfl⟩
theorem fContainsNo0 {u m : PH} {v cap : Value} {T : List Feat} {fid : Nat} (h : ListP u v 3 (T.map featV)) (hl : T.length ≤ 1000000)
  (hcall : ∀ args w, (callFunc fid args).run Tryz.prog w = .ok (.enter fid args) w) (hf : ∀ f ∈ T, ∀ u', PH.le u u' → FnK Tryz.prog fid [featV f, cap] u' m fun v _ => v = .bool false) :
  FnK Tryz.prog 40 [v, .func (.func fid) #[] #[cap]] u m fun v' _ => v' = .bool false := by
 obtain ⟨a, c, rfl⟩ := h.opn
 refine FnK.of Tryz.func40 (by kernel_rfl) (by kernel_rfl) ?_
 refine G.callK _ _ (by kernel_rfl) Tryz.call83 (fIndex0 (cap := cap) (fun _ => false) h hl hcall hf) ?_
 rintro v1 u1 l1 rfl
 rw [idxF_no fun x _ => rfl]
 refine G.geqF (-1) 0 (by kernel_rfl) (by omega) ?_
 exact G.ret (.bool false) (by kernel_rfl) ⟨rfl, rfl⟩
theorem sameAtt0 {u m : PH} {f g : Feat} {b : Nat} (hb : ElP m b 0 (featV g)) (hne : f.1 ≠ g.1) : FnK Tryz.prog 123 [featV f, .pointer (some ⟨b, 0, none⟩)] u m fun v _ => v = .bool false := by
 refine FnK.of Tryz.func123 (by kernel_rfl) (by kernel_rfl) ?_
 refine G.fieldA 64 b 0 0 0 (by kernel_rfl) (by kernel_rfl) ?_
 refine G.loadM none b (0 + 0) (.int .i64 (g.1 : Int)) (by kernel_rfl) (by kernel_rfl) (fun i x hx => ?_) ?_
 ·have : i = 0 ∧ x = .int .i64 (g.1 : Int) := by
   match i, hx with
   | 0, hx => exact ⟨rfl, by simpa [Value.cells] using hx.symm⟩
   | i + 1, hx => simp [Value.cells] at hx
  obtain ⟨rfl, rfl⟩ := this
  exact hb 0 _ rfl
 refine G.eqlF (f.1 : Int) (g.1 : Int) (by kernel_rfl) (by omega) ?_
 exact G.ret (.bool false) (by kernel_rfl) ⟨rfl, rfl⟩
structure FeatOK (T : List (List UInt8 × Nat)) (F : List Feat) (lab : Int) : Prop where
 ok : ∀ f ∈ F, ∃ n k, T[f.1]? = some (n, k) ∧ ((f.2.1 = 1 ∧ k = 2 ∧ f.2.2 ≤ 1) ∨ (f.2.1 = 2 ∧ k = 3 ∧ f.2.2 = 0)) ∧ (f.1 : Int) ≠ lab
 nodup : (F.map (·.1)).Nodup
end Go.Proofs.YtpdboaedoimahaaGreatDoor
end
section
set_option linter.unusedSectionVars false
set_option linter.unusedVariables false
namespace Go.Proofs.YtpdboaedoimahaaGreatDoor
open Go.RowKit Go.MapKept
theorem ListP.cap {u : PH} {a : Option Addr} {n c sz : Nat} {es : List Value} (h : ListP u (.slice a n c) sz es) : es.length ≤ c := by
 obtain ⟨_, _, e, hc, _⟩ := h
 cases e; exact hc
theorem elP_att2 {u : PH} {b off : Nat} {q : List UInt8 × Nat} (h : ElP u b off (attV q)) : ElP u b (off + 1) (.int .i64 (q.2 : Int)) := fun i x hx => by
 match i, hx with
 | 0, hx =>
  have : x = .int .i64 (q.2 : Int) := by simpa [Value.cells] using hx.symm
  subst this
  exact h 1 _ rfl
 | i + 1, hx => simp [Value.cells] at hx
theorem elP_upd {m : PH} {b : Nat} {t : TypeId} {xs : List Value} {e : Value} (he : e.cells = xs.toArray) : ElP (m.upd b (.cells xs.toArray t (0, 0))) b 0 e := fun i x hx => by
 refine ⟨_, _, _, upd_same _ _ _, ?_⟩
 rw [he] at hx
 simpa using hx
theorem elP_f0 {m : PH} {b : Nat} {g : Feat} (hb : ElP m b 0 (featV g)) : ElP m b (0 + 0) (.int .i64 (g.1 : Int)) := fun i x hx => by
 match i, hx with
 | 0, hx =>
  have : x = .int .i64 (g.1 : Int) := by simpa [Value.cells] using hx.symm
  subst this
  exact hb 0 _ rfl
 | i + 1, hx => simp [Value.cells] at hx
set_option maxHeartbeats 2000000 in
theorem features0 {u : PH} {v w x : Value} {T : List (List UInt8 × Nat)} {F : List Feat} {lab : Int} (h : ListP u v 2 (T.map attV)) (hF : ListP u x 3 (F.map featV)) (ok : FeatOK T F lab) (hl : T.length ≤ 1000) (hl2 : F.length ≤ 1000) (hw : ∃ a n c, w = .slice a n c) :
  Fn0 Tryz.prog 65 [.agg #[v, w, x, .int .i64 lab]] u fun r _ => r = .int .i64 0 := by
 obtain ⟨a, c, rfl⟩ := h.opn
 obtain ⟨a', c', rfl⟩ := hF.opn
 obtain ⟨wa, wn, wc, rfl⟩ := hw
 have hcap := hF.cap
 rw [List.length_map] at h hF hcap ⊢
 rw [List.length_map]
 refine Fn0.of Tryz.func65 (by kernel_rfl) (by kernel_rfl) ?_
 refine G.loop (ι := Nat) (fun i => [(1, .p 0 0), (9, .v (.slice a' F.length c')), (10, .v (.int .i64 (F.length : Int))), (11, .v (.int .i64 (i : Int)))]) (fun _ => [(0, ⟨30, [.v (.slice a T.length c), .v (.slice wa wn wc), .v (.slice a' F.length c'), .v (.int .i64 lab)]⟩)])
  (fun i u' m' => i ≤ F.length ∧ m' = PH.mt) (fun i => F.length - i) 0 (by kernel_rfl) (fun _ => by kernel_rfl) ⟨by kernel_rfl, by kernel_rfl, by kernel_rfl⟩ ⟨by omega, rfl⟩ ?_
 rintro J i hJ u1 m1 l1 ⟨hi, rfl⟩
 by_cases hlt : i < F.length
 ·refine G.lssT (i : Int) (F.length : Int) (by kernel_rfl) (by omega) ?_
  have hTi : F[i]? = some F[i] := List.getElem?_eq_getElem hlt
  obtain ⟨n, k, hk, hkind, hlab⟩ := ok.ok F[i] (List.getElem_mem hlt)
  have hdiff : ∀ f ∈ F.take i, f.1 ≠ (F[i]).1 := by
   intro f hf
   obtain ⟨j, hj, rfl⟩ := List.getElem_of_mem hf
   rw [List.length_take] at hj
   rw [List.getElem_take]
   intro e
   have := (List.getElem_inj (xs := F.map (·.1)) (h₀ := by rw [List.length_map]; omega) (h₁ := by rw [List.length_map]; omega) (i := j) (j := i) ok.nodup).1 (by rw [List.getElem_map, List.getElem_map]; exact e)
   omega
  obtain ⟨ba, oa, rfl, ea⟩ := ListP.at' (hF.mono l1) (j := i) (e := featV F[i]) (by simp [hTi])
  have hTk := (hF.mono l1).take' i (by rw [List.length_map]; omega)
  rw [← List.map_take] at hTk
  have htl : (F.take i).length = i := by rw [List.length_take]; omega
  generalize F[i] = f at ea hk hkind hlab hdiff
  obtain ⟨hkl, hkx⟩ := List.getElem?_eq_some_iff.1 hk
  obtain ⟨bb, ob, rfl, eb⟩ := ListP.at' (h.mono l1) (j := f.1) (e := attV (n, k)) (by simp [hk])
  refine G.addr ba oa F.length c' i 3 (by kernel_rfl) hlt ?_
  refine G.loadU (some 3) ba (oa + i * 3) (.agg #[.int .i64 (f.1 : Int), .int .i64 (f.2.1 : Int), .int .i64 (f.2.2 : Int)]) (by kernel_rfl) (by kernel_rfl) ea ?_
  refine G.lssF (f.1 : Int) 0 (by kernel_rfl) (by omega) ?_
  refine G.geqF (f.1 : Int) (T.length : Int) (by kernel_rfl) (by omega) ?_
  refine G.addr bb ob T.length c f.1 2 (by kernel_rfl) hkl ?_
  refine G.fieldA 61 bb (ob + f.1 * 2) 1 1 (by kernel_rfl) (by kernel_rfl) ?_
  refine G.loadU none bb (ob + f.1 * 2 + 1) (.int .i64 (k : Int)) (by kernel_rfl) (by kernel_rfl) (elP_att2 eb) ?_
  rcases hkind with ⟨k1, k2, k3⟩ | ⟨k1, k2, k3⟩
  ·refine G.eqlT (f.2.1 : Int) 1 (by kernel_rfl) (by omega) ?_
   refine G.eqlT (k : Int) 2 (by kernel_rfl) (by omega) ?_
   by_cases k0 : f.2.2 = 0
   ·refine G.eqlT (f.2.2 : Int) 0 (by kernel_rfl) (by omega) ?_
    refine G.eqlF (f.2.1 : Int) 2 (by kernel_rfl) (by omega) ?_
    refine G.pastI ?_
    refine G.pub 3003 64 [.int .i64 (f.1 : Int), .int .i64 (f.2.1 : Int), .int .i64 (f.2.2 : Int)] (by kernel_rfl) (by kernel_rfl) ?_
    intro e2 hu2 hm2
    refine G.fieldA 64 e2 0 0 0 (by kernel_rfl) (by kernel_rfl) ?_
    refine G.loadM none e2 (0 + 0) (.int .i64 (f.1 : Int)) (by kernel_rfl) (by kernel_rfl) (elP_f0 (g := f) (elP_upd rfl)) ?_
    refine G.eqlF (f.1 : Int) lab (by kernel_rfl) hlab ?_
    refine G.sliceTo 3 (some ⟨ba, oa, none⟩) F.length c' i (by kernel_rfl) (by omega) ?_
    refine G.callK _ _ (by kernel_rfl) Tryz.call40 (fContainsNo0 hTk (by rw [List.length_take]; omega) Tryz.call123 fun f' hf' u' _ => sameAtt0 (g := f) (elP_upd rfl) (hdiff f' hf')) ?_
    rintro v2 u2 l2 rfl
    refine G.drop PH.mt (by kernel_rfl) (PH.mt_le _) ?_
    refine G.add (i : Int) 1 ((i + 1 : Nat) : Int) (by kernel_rfl) (by omega) (by omega) (by omega) ?_
    exact G.back (by kernel_rfl) (hJ (i + 1) _ _ _ ⟨by kernel_rfl, by kernel_rfl, by kernel_rfl⟩ (l1.trans l2) ⟨by omega, rfl⟩ (by omega))
   ·refine G.eqlF (f.2.2 : Int) 0 (by kernel_rfl) (by omega) ?_
    refine G.eqlT (f.2.2 : Int) 1 (by kernel_rfl) (by omega) ?_
    refine G.eqlF (f.2.1 : Int) 2 (by kernel_rfl) (by omega) ?_
    refine G.pastI ?_
    refine G.pub 3003 64 [.int .i64 (f.1 : Int), .int .i64 (f.2.1 : Int), .int .i64 (f.2.2 : Int)] (by kernel_rfl) (by kernel_rfl) ?_
    intro e2 hu2 hm2
    refine G.fieldA 64 e2 0 0 0 (by kernel_rfl) (by kernel_rfl) ?_
    refine G.loadM none e2 (0 + 0) (.int .i64 (f.1 : Int)) (by kernel_rfl) (by kernel_rfl) (elP_f0 (g := f) (elP_upd rfl)) ?_
    refine G.eqlF (f.1 : Int) lab (by kernel_rfl) hlab ?_
    refine G.sliceTo 3 (some ⟨ba, oa, none⟩) F.length c' i (by kernel_rfl) (by omega) ?_
    refine G.callK _ _ (by kernel_rfl) Tryz.call40 (fContainsNo0 hTk (by rw [List.length_take]; omega) Tryz.call123 fun f' hf' u' _ => sameAtt0 (g := f) (elP_upd rfl) (hdiff f' hf')) ?_
    rintro v2 u2 l2 rfl
    refine G.drop PH.mt (by kernel_rfl) (PH.mt_le _) ?_
    refine G.add (i : Int) 1 ((i + 1 : Nat) : Int) (by kernel_rfl) (by omega) (by omega) (by omega) ?_
    exact G.back (by kernel_rfl) (hJ (i + 1) _ _ _ ⟨by kernel_rfl, by kernel_rfl, by kernel_rfl⟩ (l1.trans l2) ⟨by omega, rfl⟩ (by omega))
  ·refine G.eqlF (f.2.1 : Int) 1 (by kernel_rfl) (by omega) ?_
   refine G.eqlT (f.2.1 : Int) 2 (by kernel_rfl) (by omega) ?_
   refine G.eqlT (k : Int) 3 (by kernel_rfl) (by omega) ?_
   refine G.eqlT (f.2.2 : Int) 0 (by kernel_rfl) (by omega) ?_
   refine G.pastI ?_
   refine G.pub 3003 64 [.int .i64 (f.1 : Int), .int .i64 (f.2.1 : Int), .int .i64 (f.2.2 : Int)] (by kernel_rfl) (by kernel_rfl) ?_
   intro e2 hu2 hm2
   refine G.fieldA 64 e2 0 0 0 (by kernel_rfl) (by kernel_rfl) ?_
   refine G.loadM none e2 (0 + 0) (.int .i64 (f.1 : Int)) (by kernel_rfl) (by kernel_rfl) (elP_f0 (g := f) (elP_upd rfl)) ?_
   refine G.eqlF (f.1 : Int) lab (by kernel_rfl) hlab ?_
   refine G.sliceTo 3 (some ⟨ba, oa, none⟩) F.length c' i (by kernel_rfl) (by omega) ?_
   refine G.callK _ _ (by kernel_rfl) Tryz.call40 (fContainsNo0 hTk (by rw [List.length_take]; omega) Tryz.call123 fun f' hf' u' _ => sameAtt0 (g := f) (elP_upd rfl) (hdiff f' hf')) ?_
   rintro v2 u2 l2 rfl
   refine G.drop PH.mt (by kernel_rfl) (PH.mt_le _) ?_
   refine G.add (i : Int) 1 ((i + 1 : Nat) : Int) (by kernel_rfl) (by omega) (by omega) (by omega) ?_
   exact G.back (by kernel_rfl) (hJ (i + 1) _ _ _ ⟨by kernel_rfl, by kernel_rfl, by kernel_rfl⟩ (l1.trans l2) ⟨by omega, rfl⟩ (by omega))
 ·obtain rfl : i = F.length := by omega
  refine G.lssF (F.length : Int) (F.length : Int) (by kernel_rfl) (by omega) ?_
  exact G.ret (.int .i64 0) (by kernel_rfl) ⟨rfl, rfl⟩
end Go.Proofs.YtpdboaedoimahaaGreatDoor
end
section
set_option linter.unusedSectionVars false
set_option linter.unusedVariables false
namespace Go.Proofs.YtpdboaedoimahaaGreatDoor
open Go.RowKit Go.MapKept
theorem bIndex0 {u m : PH} {b n c : Nat} {L : List Bool} (hn : n = L.length) (hl : n ≤ 1000000) (hE : ∀ (j : Nat) s, L[j]? = some s → ElP m b (0 + j * 1) (.bool s)) (hx : ∀ s ∈ L, s = true) :
  FnK Tryz.prog 174 [.slice (some ⟨b, 0, none⟩) n c, .bool false] u m fun v _ => v = .int .i64 (-1) := by
 refine FnK.of Tryz.func174 (by kernel_rfl) (by kernel_rfl) ?_
 refine G.loop (ι := Nat) (fun i => [(0, .v (.slice (some ⟨b, 0, none⟩) n c)), (1, .v (.bool false)), (7, .v (.int .i64 (n : Int))), (8, .v (.int .i64 (i : Int)))]) (fun _ => [])
  (fun i u' m' => i ≤ n ∧ m' = m) (fun i => n - i) 0 (by kernel_rfl) (fun _ => by kernel_rfl) ⟨by kernel_rfl, by kernel_rfl, by kernel_rfl⟩ ⟨by omega, rfl⟩ ?_
 rintro J i hJ u1 m1 l1 ⟨hi, rfl⟩
 by_cases hlt : i < n
 ·refine G.lssT (i : Int) (n : Int) (by kernel_rfl) (by omega) ?_
  have hTi : L[i]? = some true := by
   rw [List.getElem?_eq_getElem (by omega)]
   exact congrArg some (hx _ (List.getElem_mem (by omega)))
  refine G.addr b 0 n c i 1 (by kernel_rfl) hlt ?_
  refine G.loadM none b (0 + i * 1) (.bool true) (by kernel_rfl) (by kernel_rfl) (hE i _ hTi) ?_
  refine G.eqB false true (by kernel_rfl) ?_
  refine G.add (i : Int) 1 ((i + 1 : Nat) : Int) (by kernel_rfl) (by omega) (by omega) (by omega) ?_
  exact G.back (by kernel_rfl) (hJ (i + 1) _ _ _ ⟨by kernel_rfl, by kernel_rfl, by kernel_rfl⟩ l1 ⟨by omega, rfl⟩ (by omega))
 ·obtain rfl : i = n := by omega
  refine G.lssF (i : Int) (i : Int) (by kernel_rfl) (by omega) ?_
  exact G.ret (.int .i64 (-1)) (by kernel_rfl) ⟨rfl, rfl⟩
theorem bContains0 {u m : PH} {b n c : Nat} {L : List Bool} (hn : n = L.length) (hl : n ≤ 1000000) (hE : ∀ (j : Nat) s, L[j]? = some s → ElP m b (0 + j * 1) (.bool s)) (hx : ∀ s ∈ L, s = true) :
  FnK Tryz.prog 122 [.slice (some ⟨b, 0, none⟩) n c, .bool false] u m fun v _ => v = .bool false := by
 refine FnK.of Tryz.func122 (by kernel_rfl) (by kernel_rfl) ?_
 refine G.callK _ _ (by kernel_rfl) Tryz.call174 (bIndex0 (c := c) (L := L) hn hl hE hx) ?_
 rintro v1 u1 l1 rfl
 refine G.geqF (-1) 0 (by kernel_rfl) (by omega) ?_
 exact G.ret (.bool false) (by kernel_rfl) ⟨rfl, rfl⟩
abbrev SRel : Type := List UInt8 × List Nat × (Option Addr × Nat)
def relV (r : SRel) : Value := .agg #[.string (mkS r.1), .slice r.2.2.1 r.2.1.length r.2.2.2]
structure RelOK (u : PH) (n : Nat) (R : List SRel) : Prop where
 names : Names (R.map (·.1))
 ne : ∀ r ∈ R, r.2.1 ≠ []
 lt : ∀ r ∈ R, ∀ a ∈ r.2.1, a < n
 len : ∀ r ∈ R, r.2.1.length ≤ 1000
 asc : ∀ r ∈ R, ∀ (k : Nat) x y, r.2.1[k]? = some x → r.2.1[k + 1]? = some y → x < y
 all : ∀ a < n, ∃ r ∈ R, a ∈ r.2.1
 at' : ∀ r ∈ R, ListP u (.slice r.2.2.1 r.2.1.length r.2.2.2) 1 (intsV r.2.1)
def uArr (g n : Nat) (L : List Bool) : Arr := ⟨.slice (some ⟨g, 0, none⟩) n n, 4, 1, L.map .bool⟩
def nArr (a : Option Addr) (c : Nat) (L : List (List UInt8)) : Arr := ⟨.slice a L.length c, 9, 1, L.map nmV⟩
theorem uArr_at {g n : Nat} {L : List Bool} {m0 m : PH} : (uArr g n L).At m0 m = ArrAt m0 m (.slice (some ⟨g, 0, none⟩) n n) 4 1 (L.map .bool) := rfl
theorem nArr_at {a : Option Addr} {c : Nat} {L : List (List UInt8)} {m0 m : PH} : (nArr a c L).At m0 m = ArrAt m0 m (.slice a L.length c) 9 1 (L.map nmV) := rfl
theorem map_bool_set (L : List Bool) (a : Nat) : (L.map Value.bool).set a (.bool true) = (L.set a true).map Value.bool := by rw [List.map_set]
set_option maxHeartbeats 4000000 in
theorem relations0 {u : PH} {w x y : Value} {a0 : Option Addr} {n c0 : Nat} {R : List SRel} (hR : ListP u w 2 (R.map relV)) (ok : RelOK u n R) (hn : n ≤ 1000) (hn0 : 0 < n) (hl : R.length ≤ 1000) (hx : ∃ a n c, x = .slice a n c) (hy : ∃ z : Int, y = .int .i64 z) :
  Fn0 Tryz.prog 64 [.agg #[.slice a0 n c0, w, x, y]] u fun r _ => r = .int .i64 0 := by
 obtain ⟨a, c, rfl⟩ := hR.opn
 obtain ⟨xa, xn, xc, rfl⟩ := hx
 obtain ⟨z, rfl⟩ := hy
 rw [List.length_map] at hR ⊢
 refine Fn0.of Tryz.func64 (by kernel_rfl) (by kernel_rfl) ?_
 refine G.make 4 1 1 (.bool false) n (by kernel_rfl) rfl rfl (by omega) (by omega) (by omega) ?_
 rintro v1 m1 hA1 ⟨ad, rfl⟩
 obtain ⟨g, rfl, _⟩ := hA1.some'
 refine G.loop (ι := Nat × List Bool × List (List UInt8) × (Option Addr × Nat)) (fun i => [(3, .v (.slice i.2.2.2.1 i.2.2.1.length i.2.2.2.2)), (4, .v (.slice (some ⟨g, 0, none⟩) n n)), (16, .v (.slice a R.length c)), (17, .v (.int .i64 (R.length : Int))), (18, .v (.int .i64 (i.1 : Int)))]) (fun _ => [])
  (fun i u' m' => i.1 ≤ R.length ∧ i.2.1.length = n ∧ i.2.2.1 = (R.map (·.1)).take i.1 ∧ (∀ r ∈ R.take i.1, ∀ q ∈ r.2.1, i.2.1[q]? = some true) ∧ Bag m' [uArr g n i.2.1, nArr i.2.2.2.1 i.2.2.2.2 i.2.2.1]) (fun i => R.length - i.1) (0, List.replicate n false, [], (none, 0)) (by kernel_rfl) (fun _ => by kernel_rfl) ⟨by kernel_rfl, by kernel_rfl, by kernel_rfl⟩
  ⟨by simp, by simp, by simp, by simp, ⟨PH.mt, by rw [uArr_at, List.map_replicate]; exact hA1, PH.mt, ArrAt.nil _ _ _, trivial⟩⟩ ?_
 rintro J ⟨i, L, N, ⟨na, nc⟩⟩ hJ u2 m2 l2 ⟨hi, hL, hN, hall, hbag⟩
 simp only at hi hL hN hall hbag hJ
 by_cases hlt : i < R.length
 ·refine G.lssT (i : Int) (R.length : Int) (by kernel_rfl) (by omega) ?_
  have hTi : R[i]? = some R[i] := List.getElem?_eq_getElem hlt
  have hmem : R[i] ∈ R := List.getElem_mem hlt
  have htk : (R.map (·.1)).take (i + 1) = N ++ [R[i].1] := by
   rw [List.take_add_one, List.getElem?_map, hTi, hN]; rfl
  have htk2 : R.take (i + 1) = R.take i ++ [R[i]] := by
   rw [List.take_add_one, hTi]; rfl
  have hnames := ok.names.take (i + 1)
  rw [htk] at hnames
  have hlen : N.length = i := by rw [hN]; simp; omega
  obtain ⟨ba, oa, rfl, ea⟩ := ListP.at' (hR.mono l2) (j := i) (e := relV R[i]) (by simp [hTi])
  generalize R[i] = q at ea hmem htk htk2 hnames
  obtain ⟨qs, ql, qa, qc⟩ := q
  have hne : ql ≠ [] := ok.ne _ hmem
  have hlq : ∀ p ∈ ql, p < n := ok.lt _ hmem
  have hql : ql.length ≤ 1000 := ok.len _ hmem
  have hasc : ∀ (k : Nat) x y, ql[k]? = some x → ql[k + 1]? = some y → x < y := ok.asc _ hmem
  have hqat : ListP u2 (.slice qa ql.length qc) 1 (intsV ql) := (ok.at' _ hmem).mono l2
  have hq0 : 0 < ql.length := List.length_pos_iff.2 hne
  simp only at htk hnames
  refine G.addr ba oa R.length c i 2 (by kernel_rfl) hlt ?_
  refine G.loadU (some 2) ba (oa + i * 2) (.agg #[.string (mkS qs), .slice qa ql.length qc]) (by kernel_rfl) (by kernel_rfl) ea ?_
  refine G.buildU 9 1 16 (.string (mkS [])) [.string (mkS qs)] (by kernel_rfl) (nmV_ok [qs]) rfl (by omega) (by simp) (by simp) ?_
  intro g3 u3 l3 e3
  obtain ⟨mm, hx0, hput⟩ := hbag.focus 1 rfl
  rw [nArr_at] at hx0
  refine G.append 9 1 16 (.string (mkS [])) mm (N.map nmV) [.string (mkS qs)] (.slice na N.length nc) g3 0 1 1 (by kernel_rfl) rfl rfl (by omega) hx0 e3 (nmV_ok [qs]) rfl (by omega) (by simp; omega) (by simp; omega) ?_
  intro v4 m4 hA4
  rw [show N.map nmV ++ [.string (mkS qs)] = (N ++ [qs]).map nmV by rw [List.map_append]; rfl] at hA4
  obtain ⟨b4, c4, rfl⟩ := hA4.ptr (by simp)
  have hcap := hA4.cap
  rw [List.length_map] at hA4 hcap ⊢
  have hbag4 := hput (nArr (some ⟨b4, 0, none⟩) c4 (N ++ [qs])) m4 hA4
  simp only [List.set_cons_succ, List.set_cons_zero] at hbag4
  refine G.callK _ _ (by kernel_rfl) Tryz.call121 (named0 (b := b4) (k := i) (c := c4) (x := qs) (L := N ++ [qs]) hnames (by simp; omega) hcap (by rw [← hlen]; exact getElem?_snoc_last N qs) fun j s hs => hA4.el (by rw [List.getElem?_map, hs]; rfl)) ?_
  rintro v5 u5 l5 rfl
  refine G.neqF 0 0 (by kernel_rfl) (by omega) ?_
  refine G.eqlF (ql.length : Int) 0 (by kernel_rfl) (by omega) ?_
  generalize N ++ [qs] = N' at hbag4 htk
  clear hA4 hput hx0 hbag hcap hnames
  have hlt' : ∀ p ∈ ql, p < n := hlq
  refine G.loop (ι := Nat × List Bool) (fun j => [(3, .v (.slice (some ⟨b4, 0, none⟩) N'.length c4)), (4, .v (.slice (some ⟨g, 0, none⟩) n n)), (6, .p 5003 0), (16, .v (.slice (some ⟨ba, oa, none⟩) R.length c)), (17, .v (.int .i64 (R.length : Int))), (18, .v (.int .i64 (i : Int))), (39, .v (.slice qa ql.length qc)), (40, .v (.int .i64 (ql.length : Int))), (41, .v (.int .i64 (j.1 : Int)))])
   (fun _ => [(5003, ⟨74, [.v (.string (mkS qs)), .v (.slice qa ql.length qc)]⟩)])
   (fun j u' m' => j.1 ≤ ql.length ∧ j.2.length = n ∧ (∀ r ∈ R.take i, ∀ q ∈ r.2.1, j.2[q]? = some true) ∧ (∀ q ∈ ql.take j.1, j.2[q]? = some true) ∧ Bag m' [uArr g n j.2, nArr (some ⟨b4, 0, none⟩) c4 N']) (fun j => ql.length - j.1) (0, L) (by kernel_rfl) (fun _ => by kernel_rfl) ⟨by kernel_rfl, by kernel_rfl, by kernel_rfl⟩
   ⟨by simp, hL, hall, by simp, hbag4⟩ ?_
  rintro J2 ⟨j, L2⟩ hJ2 u6 m6 l6 ⟨hj, hL2, hall2, hrow2, hbag6⟩
  simp only at hj hL2 hall2 hrow2 hbag6 hJ2
  have hqat6 := hqat.mono ((l3.trans l5).trans l6)
  by_cases hltj : j < ql.length
  ·refine G.lssT (j : Int) (ql.length : Int) (by kernel_rfl) (by omega) ?_
   have hqj : ql[j]? = some ql[j] := List.getElem?_eq_getElem hltj
   have hpn : ql[j] < n := hlq _ (List.getElem_mem hltj)
   have htkj : ql.take (j + 1) = ql.take j ++ [ql[j]] := by rw [List.take_add_one, hqj]; rfl
   obtain ⟨bq, oq, rfl, eq⟩ := ListP.at' hqat6 (j := j) (e := .int .i64 (ql[j] : Int)) (by simp [intsV, hqj])
   generalize ql[j] = p at eq hpn htkj
   refine G.addr bq oq ql.length qc j 1 (by kernel_rfl) hltj ?_
   refine G.loadU none bq (oq + j * 1) (.int .i64 (p : Int)) (by kernel_rfl) (by kernel_rfl) eq ?_
   refine G.lssF (p : Int) 0 (by kernel_rfl) (by omega) ?_
   refine G.geqF (p : Int) (n : Int) (by kernel_rfl) (by omega) ?_
   refine G.addr g 0 n n p 1 (by kernel_rfl) hpn ?_
   obtain ⟨mm2, hx2, hput2⟩ := hbag6.focus 0 rfl
   rw [uArr_at] at hx2
   refine G.storeA 1 mm2 (L2.map Value.bool) g n n p (.bool true) (by kernel_rfl) hx2 (by rw [List.length_map]; omega) rfl rfl ?_
   intro m7 hA7
   rw [map_bool_set] at hA7
   have hbag7 := hput2 (uArr g n (L2.set p true)) m7 hA7
   simp only [List.set_cons_zero] at hbag7
   refine G.add (j : Int) 1 ((j + 1 : Nat) : Int) (by kernel_rfl) (by omega) (by omega) (by omega) ?_
   have hkeep : ∀ q, L2[q]? = some true → (L2.set p true)[q]? = some true := fun q hq => by
    rw [List.getElem?_set]
    split
    ·subst_vars; rw [if_pos (by omega)]
    ·exact hq
   exact G.back (by kernel_rfl) (hJ2 (j + 1, L2.set p true) _ _ _ ⟨by kernel_rfl, by kernel_rfl, by kernel_rfl⟩ l6 ⟨by dsimp only; omega, by simp [hL2], fun r hr q hq => hkeep q (hall2 r hr q hq), by
    intro q hq
    dsimp only at hq ⊢
    rw [htkj, List.mem_append, List.mem_singleton] at hq
    rcases hq with hq | rfl
    ·exact hkeep q (hrow2 q hq)
    ·rw [List.getElem?_set]; simp; omega, hbag7⟩ (by dsimp only; omega))
  ·obtain rfl : j = ql.length := by omega
   refine G.lssF (ql.length : Int) (ql.length : Int) (by kernel_rfl) (by omega) ?_
   rw [List.take_length] at hrow2
   refine G.loop (ι := Nat) (fun k => [(3, .v (.slice (some ⟨b4, 0, none⟩) N'.length c4)), (4, .v (.slice (some ⟨g, 0, none⟩) n n)), (6, .p 5003 0), (10, .v (.int .i64 ((k + 1 : Nat) : Int))), (16, .v (.slice (some ⟨ba, oa, none⟩) R.length c)), (17, .v (.int .i64 (R.length : Int))), (18, .v (.int .i64 (i : Int)))])
    (fun _ => [(5003, ⟨74, [.v (.string (mkS qs)), .v (.slice qa ql.length qc)]⟩)])
    (fun k u' m' => k + 1 ≤ ql.length ∧ m' = m6) (fun k => ql.length - k) 0 (by kernel_rfl) (fun _ => by kernel_rfl) ⟨by kernel_rfl, by kernel_rfl, by kernel_rfl⟩
    ⟨by omega, rfl⟩ ?_
   rintro J3 k hJ3 u8 m8 l8 ⟨hk, rfl⟩
   have hqat8 := hqat6.mono l8
   by_cases hltk : k + 1 < ql.length
   ·refine G.lssT ((k + 1 : Nat) : Int) (ql.length : Int) (by kernel_rfl) (by omega) ?_
    have hq1 : ql[k]? = some ql[k] := List.getElem?_eq_getElem (by omega)
    have hq2 : ql[k + 1]? = some ql[k + 1] := List.getElem?_eq_getElem hltk
    have hlt3 := hasc k _ _ hq1 hq2
    obtain ⟨bq, oq, rfl, eq2⟩ := ListP.at' hqat8 (j := k + 1) (e := .int .i64 (ql[k + 1] : Int)) (by simp [intsV, hq2])
    obtain ⟨_, _, e', eq1⟩ := ListP.at' hqat8 (j := k) (e := .int .i64 (ql[k] : Int)) (by simp [intsV, hq1])
    cases e'
    generalize ql[k] = p1 at eq1 hlt3
    generalize ql[k + 1] = p2 at eq2 hlt3
    refine G.addr bq oq ql.length qc (k + 1) 1 (by kernel_rfl) hltk ?_
    refine G.loadU none bq (oq + (k + 1) * 1) (.int .i64 (p2 : Int)) (by kernel_rfl) (by kernel_rfl) eq2 ?_
    refine G.sub ((k + 1 : Nat) : Int) 1 (k : Int) (by kernel_rfl) (by omega) (by omega) (by omega) ?_
    refine G.addr bq oq ql.length qc k 1 (by kernel_rfl) (by omega) ?_
    refine G.loadU none bq (oq + k * 1) (.int .i64 (p1 : Int)) (by kernel_rfl) (by kernel_rfl) eq1 ?_
    refine G.leqF (p2 : Int) (p1 : Int) (by kernel_rfl) (by omega) ?_
    refine G.add ((k + 1 : Nat) : Int) 1 ((k + 1 + 1 : Nat) : Int) (by kernel_rfl) (by omega) (by omega) (by omega) ?_
    exact G.back (by kernel_rfl) (hJ3 (k + 1) _ _ _ ⟨by kernel_rfl, by kernel_rfl, by kernel_rfl⟩ l8 ⟨by omega, rfl⟩ (by omega))
   ·refine G.lssF ((k + 1 : Nat) : Int) (ql.length : Int) (by kernel_rfl) (by omega) ?_
    refine G.add (i : Int) 1 ((i + 1 : Nat) : Int) (by kernel_rfl) (by omega) (by omega) (by omega) ?_
    exact G.back (by kernel_rfl) (hJ (i + 1, L2, N', (some ⟨b4, 0, none⟩, c4)) _ _ _ ⟨by kernel_rfl, by kernel_rfl, by kernel_rfl⟩ ((((l2.trans l3).trans l5).trans l6).trans l8) ⟨by dsimp only; omega, hL2, htk.symm, by
     intro r hr q hq
     dsimp only at hr hq ⊢
     rw [htk2, List.mem_append, List.mem_singleton] at hr
     rcases hr with hr | rfl
     ·exact hall2 r hr q hq
     ·exact hrow2 q hq, hbag6⟩ (by dsimp only; omega))
 ·obtain rfl : i = R.length := by omega
  refine G.lssF (R.length : Int) (R.length : Int) (by kernel_rfl) (by omega) ?_
  rw [List.take_length] at hall
  refine G.callK _ _ (by kernel_rfl) Tryz.call122 (bContains0 (b := g) (c := n) (L := L) hL.symm (by omega) (fun j s hs => hbag.el 0 rfl (x := uArr g n L) rfl (by show (L.map Value.bool)[j]? = _; rw [List.getElem?_map, hs]; rfl)) fun s hs => by
   obtain ⟨j, hj, rfl⟩ := List.getElem_of_mem hs
   obtain ⟨r, hr, hq⟩ := ok.all j (by omega)
   have := hall r hr j hq
   rw [List.getElem?_eq_getElem hj] at this
   exact Option.some.inj this) ?_
  rintro v3 u3 l3 rfl
  refine G.drop PH.mt (by kernel_rfl) (PH.mt_le _) ?_
  exact G.ret (.int .i64 0) (by kernel_rfl) ⟨rfl, rfl⟩
end Go.Proofs.YtpdboaedoimahaaGreatDoor
end
section
set_option linter.unusedSectionVars false
set_option linter.unusedVariables false
namespace Go.Proofs.YtpdboaedoimahaaGreatDoor
open Go.RowKit Go.MapKept
structure SchOK (u : PH) (T : List (List UInt8 × Nat)) (R : List SRel) (F : List Feat) (lab : Int) : Prop where
 att : AttOK T
 rel : RelOK u T.length R
 feat : FeatOK T F lab
 t1 : 0 < T.length
 t2 : T.length ≤ 12
 r1 : 0 < R.length
 r2 : R.length ≤ 6
 f2 : F.length ≤ 8
 l1 : -1 ≤ lab
 l2 : ∀ l : Nat, lab = (l : Int) → ∃ n, T[l]? = some (n, 2)
theorem RelOK.mono {u u' : PH} {n : Nat} {R : List SRel} (h : RelOK u n R) (hl : PH.le u u') : RelOK u' n R := ⟨h.names, h.ne, h.lt, h.len, h.asc, h.all, fun r hr => (h.at' r hr).mono hl⟩
theorem SchOK.mono {u u' : PH} {T : List (List UInt8 × Nat)} {R : List SRel} {F : List Feat} {lab : Int} (h : SchOK u T R F lab) (hl : PH.le u u') : SchOK u' T R F lab := ⟨h.att, h.rel.mono hl, h.feat, h.t1, h.t2, h.r1, h.r2, h.f2, h.l1, h.l2⟩
def SchP (u : PH) (v : Value) (T : List (List UInt8 × Nat)) (R : List SRel) (F : List Feat) (lab : Int) : Prop :=
 ∃ a c b d e f, v = .agg #[.slice a T.length c, .slice b R.length d, .slice e F.length f, .int .i64 lab] ∧ ListP u (.slice a T.length c) 2 (T.map attV) ∧ ListP u (.slice b R.length d) 2 (R.map relV) ∧ ListP u (.slice e F.length f) 3 (F.map featV)
theorem SchP.mono {u u' : PH} {v : Value} {T : List (List UInt8 × Nat)} {R : List SRel} {F : List Feat} {lab : Int} (h : SchP u v T R F lab) (hl : PH.le u u') : SchP u' v T R F lab := by
 obtain ⟨a, c, b, d, e, f, hv, h1, h2, h3⟩ := h
 exact ⟨a, c, b, d, e, f, hv, h1.mono hl, h2.mono hl, h3.mono hl⟩
set_option maxHeartbeats 2000000 in
theorem check0 {u : PH} {v : Value} {T : List (List UInt8 × Nat)} {R : List SRel} {F : List Feat} {lab : Int} (h : SchP u v T R F lab) (ok : SchOK u T R F lab) :
  Fn0 Tryz.prog 31 [v] u fun r _ => r = .int .i64 0 := by
 obtain ⟨a, c, b, d, e, f, rfl, hT, hR, hF⟩ := h
 have t1 := ok.t1
 have t2 := ok.t2
 have r1 := ok.r1
 have r2 := ok.r2
 have f2 := ok.f2
 have lo := ok.l1
 have hi : lab < T.length := by
  rcases Int.lt_or_le lab 0 with hlt | hge
  ·omega
  ·obtain ⟨n, hn⟩ := ok.l2 lab.toNat (by omega)
   obtain ⟨hk, _⟩ := List.getElem?_eq_some_iff.1 hn
   omega
 refine Fn0.of Tryz.func31 (by kernel_rfl) (by kernel_rfl) ?_
 refine G.eqlF (T.length : Int) 0 (by kernel_rfl) (by omega) ?_
 refine G.gtrF (T.length : Int) 12 (by kernel_rfl) (by omega) ?_
 refine G.eqlF (R.length : Int) 0 (by kernel_rfl) (by omega) ?_
 refine G.gtrF (R.length : Int) 6 (by kernel_rfl) (by omega) ?_
 refine G.gtrF (F.length : Int) 8 (by kernel_rfl) (by omega) ?_
 refine G.buildU 86 1 8 (.nilFunc) [.func (.func 63) #[] #[], .func (.func 64) #[] #[], .func (.func 65) #[] #[]] (by kernel_rfl) (fun x hx => by
  simp only [List.mem_cons, List.not_mem_nil, or_false] at hx
  rcases hx with rfl | rfl | rfl <;> exact ⟨rfl, List.all_eq_true.1 rfl⟩) rfl (by omega) (by simp) (by simp) ?_
 intro g u1 l1 e1
 refine G.loop (ι := Nat) (fun i => [(1, .p 0 0), (34, .v (.slice (some ⟨g, 0, none⟩) 3 3)), (35, .v (.int .i64 ((3 : Nat) : Int))), (36, .v (.int .i64 (i : Int)))])
  (fun _ => [(0, ⟨30, [.v (.slice a T.length c), .v (.slice b R.length d), .v (.slice e F.length f), .v (.int .i64 lab)]⟩)])
  (fun i u' m' => i ≤ 3 ∧ m' = PH.mt) (fun i => 3 - i) 0 (by kernel_rfl) (fun _ => by kernel_rfl) ⟨by kernel_rfl, by kernel_rfl, by kernel_rfl⟩ ⟨by omega, rfl⟩ ?_
 rintro J i hJ u2 m2 l2 ⟨hi3, rfl⟩
 have le2 := l1.trans l2
 have e2 := e1.mono l2
 by_cases hlt : i < 3
 ·refine G.lssT (i : Int) ((3 : Nat) : Int) (by kernel_rfl) (by omega) ?_
  refine G.addr g 0 3 3 i 1 (by kernel_rfl) hlt ?_
  rcases (by omega : i = 0 ∨ i = 1 ∨ i = 2) with rfl | rfl | rfl
  ·refine G.loadU none g (0 + 0 * 1) (.func (.func 63) #[] #[]) (by kernel_rfl) (by kernel_rfl) (e2 0 _ rfl) ?_
   refine G.call0 _ _ (by kernel_rfl) Tryz.call63 (attributes0 (w := .slice b R.length d) (x := .slice e F.length f) (y := .int .i64 lab) (hT.mono le2) ok.att (by omega) ⟨_, _, _, rfl⟩ ⟨_, _, _, rfl⟩ ⟨_, rfl⟩) ?_
   rintro v3 u3 l3 rfl
   refine G.neqF 0 0 (by kernel_rfl) (by omega) ?_
   refine G.add ((0 : Nat) : Int) 1 ((0 + 1 : Nat) : Int) (by kernel_rfl) (by omega) (by omega) (by omega) ?_
   exact G.back (by kernel_rfl) (hJ (0 + 1) _ _ _ ⟨by kernel_rfl, by kernel_rfl, by kernel_rfl⟩ (l2.trans l3) ⟨by omega, rfl⟩ (by omega))
  ·refine G.loadU none g (0 + 1 * 1) (.func (.func 64) #[] #[]) (by kernel_rfl) (by kernel_rfl) (e2 1 _ rfl) ?_
   refine G.call0 _ _ (by kernel_rfl) Tryz.call64 (relations0 (a0 := a) (c0 := c) (x := .slice e F.length f) (y := .int .i64 lab) (hR.mono le2) (ok.rel.mono le2) (by omega) (by omega) (by omega) ⟨_, _, _, rfl⟩ ⟨_, rfl⟩) ?_
   rintro v3 u3 l3 rfl
   refine G.neqF 0 0 (by kernel_rfl) (by omega) ?_
   refine G.add ((1 : Nat) : Int) 1 ((1 + 1 : Nat) : Int) (by kernel_rfl) (by omega) (by omega) (by omega) ?_
   exact G.back (by kernel_rfl) (hJ (1 + 1) _ _ _ ⟨by kernel_rfl, by kernel_rfl, by kernel_rfl⟩ (l2.trans l3) ⟨by omega, rfl⟩ (by omega))
  ·refine G.loadU none g (0 + 2 * 1) (.func (.func 65) #[] #[]) (by kernel_rfl) (by kernel_rfl) (e2 2 _ rfl) ?_
   refine G.call0 _ _ (by kernel_rfl) Tryz.call65 (features0 (w := .slice b R.length d) (hT.mono le2) (hF.mono le2) ok.feat (by omega) (by omega) ⟨_, _, _, rfl⟩) ?_
   rintro v3 u3 l3 rfl
   refine G.neqF 0 0 (by kernel_rfl) (by omega) ?_
   refine G.add ((2 : Nat) : Int) 1 ((2 + 1 : Nat) : Int) (by kernel_rfl) (by omega) (by omega) (by omega) ?_
   exact G.back (by kernel_rfl) (hJ (2 + 1) _ _ _ ⟨by kernel_rfl, by kernel_rfl, by kernel_rfl⟩ (l2.trans l3) ⟨by omega, rfl⟩ (by omega))
 ·obtain rfl : i = 3 := by omega
  refine G.lssF ((3 : Nat) : Int) ((3 : Nat) : Int) (by kernel_rfl) (by omega) ?_
  refine G.lssF lab (-1) (by kernel_rfl) (by omega) ?_
  refine G.geqF lab (T.length : Int) (by kernel_rfl) (by omega) ?_
  rcases Int.lt_or_le lab 0 with hneg | hge
  ·refine G.geqF lab 0 (by kernel_rfl) (by omega) ?_
   exact G.ret (.int .i64 0) (by kernel_rfl) ⟨rfl, rfl⟩
  ·refine G.geqT lab 0 (by kernel_rfl) (by omega) ?_
   obtain ⟨l, rfl⟩ : ∃ l : Nat, lab = (l : Int) := ⟨lab.toNat, by omega⟩
   obtain ⟨n, hn⟩ := ok.l2 l rfl
   obtain ⟨bb, ob, rfl, eb⟩ := ListP.at' (hT.mono le2) (j := l) (e := attV (n, 2)) (by simp [hn])
   refine G.addr bb ob T.length c l 2 (by kernel_rfl) (by omega) ?_
   refine G.fieldA 61 bb (ob + l * 2) 1 1 (by kernel_rfl) (by kernel_rfl) ?_
   refine G.loadU none bb (ob + l * 2 + 1) (.int .i64 ((2 : Nat) : Int)) (by kernel_rfl) (by kernel_rfl) (elP_att2 eb) ?_
   refine G.neqF ((2 : Nat) : Int) 2 (by kernel_rfl) (by omega) ?_
   exact G.ret (.int .i64 0) (by kernel_rfl) ⟨rfl, rfl⟩
end Go.Proofs.YtpdboaedoimahaaGreatDoor
end
section
set_option linter.unusedSectionVars false
set_option linter.unusedVariables false
namespace Go.Proofs.YtpdboaedoimahaaGreatDoor
open Go.RowKit Go.MapKept
theorem lim0 (n : Nat) : (limbs n).getD 0 0 = n % 1000000000 := by
 by_cases h : n = 0
 ·subst h; rw [limbs_zero]; rfl
 ·rw [limbs_pos h]; rfl
theorem lim1 (n : Nat) : (limbs n).getD 1 0 = n / 1000000000 % 1000000000 := by
 by_cases h : n = 0
 ·subst h; rw [limbs_zero]; rfl
 ·rw [limbs_pos h]; show (limbs (n / 1000000000)).getD 0 0 = _; rw [lim0]
theorem lim_len {n : Nat} (h : n < 1000000000000000000) : (limbs n).length ≤ 2 := by
 by_cases h0 : n = 0
 ·subst h0; rw [limbs_zero]; simp
 ·rw [limbs_pos h0]
  by_cases h1 : n / 1000000000 = 0
  ·rw [h1, limbs_zero]; simp
  ·rw [limbs_pos h1, show n / 1000000000 / 1000000000 = 0 by omega, limbs_zero]; simp
theorem u64_wrapZ {z : Int} (h1 : 0 ≤ z) (h2 : z < 18446744073709551616) : IntKind.u64.wrap z = z := by
 simp only [IntKind.wrap, IntKind.signed, IntKind.bits]; simp; omega
section rules
variable {P : Program} [Mixed P] {fn : Func} {Post : Spec} {st : List KI × S} {u m : PH}
theorem G.mul64 (x y z : Int) (h : stopV P (adv P st) = .bin .mul (.int .u64 x) (.int .u64 y)) (hz : x * y = z) (h1 : 0 ≤ z) (h2 : z < 18446744073709551616)
  (k : G P fn Post (nx (adv P st) (.int .u64 z)) u m) : G P fn Post st u m :=
 G.bin _ h guard_int (fun t w => by simp [binOp, Op.intArith, hz, u64_wrapZ h1 h2]) k
theorem G.add64 (x y z : Int) (h : stopV P (adv P st) = .bin .add (.int .u64 x) (.int .u64 y)) (hz : x + y = z) (h1 : 0 ≤ z) (h2 : z < 18446744073709551616)
  (k : G P fn Post (nx (adv P st) (.int .u64 z)) u m) : G P fn Post st u m :=
 G.bin _ h guard_int (fun t w => by simp [binOp, Op.intArith, hz, u64_wrapZ h1 h2]) k
end rules
theorem natAt0 {u : PH} {v : Value} {n : Nat} (h : NatP u v n) (hn : n < 1000000000000000000) (i : Nat) : Fn0 Tryz.prog 217 [v, .int .i64 (i : Int)] u fun r _ => r = .int .u64 (((limbs n).getD i 0 : Nat) : Int) := by
 have hl := lim_len hn
 obtain ⟨a, c, rfl, _⟩ := id h
 refine Fn0.of Tryz.func217 (by kernel_rfl) (by kernel_rfl) ?_
 by_cases hlt : i < (limbs n).length
 ·refine G.lssT (i : Int) ((limbs n).length : Int) (by kernel_rfl) (by omega) ?_
  obtain ⟨b, off, rfl, e⟩ := h.at hlt
  refine G.addr b off (limbs n).length c i 1 (by kernel_rfl) hlt ?_
  refine G.loadU none b (off + i * 1) _ (by kernel_rfl) (by kernel_rfl) e ?_
  exact G.ret _ (by kernel_rfl) ⟨rfl, rfl⟩
 ·refine G.lssF (i : Int) ((limbs n).length : Int) (by kernel_rfl) (by omega) ?_
  rw [getD_past hlt]
  exact G.ret (.int .u64 0) (by kernel_rfl) ⟨rfl, rfl⟩
theorem natSmall0 {u : PH} {v : Value} {n : Nat} (h : NatP u v n) (hn : n < 1000000000000000000) : Fn0 Tryz.prog 215 [v] u fun r _ => r = .int .u64 (n : Int) := by
 obtain ⟨a, c, rfl, _⟩ := id h
 refine Fn0.of Tryz.func215 (by kernel_rfl) (by kernel_rfl) ?_
 refine G.call0 _ _ (by kernel_rfl) Tryz.call217 (natAt0 h hn 1) ?_
 rintro v1 u1 l1 rfl
 rw [lim1]
 refine G.mul64 ((n / 1000000000 % 1000000000 : Nat) : Int) 1000000000 _ (by kernel_rfl) rfl (by omega) (by omega) ?_
 refine G.call0 _ _ (by kernel_rfl) Tryz.call217 (natAt0 (h.mono l1) hn 0) ?_
 rintro v2 u2 l2 rfl
 rw [lim0]
 refine G.add64 (((n / 1000000000 % 1000000000 : Nat) : Int) * 1000000000) ((n % 1000000000 : Nat) : Int) (n : Int) (by kernel_rfl) (by omega) (by omega) (by omega) ?_
 exact G.ret _ (by kernel_rfl) ⟨rfl, rfl⟩
theorem numSmall0 {u : PH} {v : Value} {z : Int} (h : NumP u v z) (hz : z.natAbs < 1000000000000000000) : Fn0 Tryz.prog 190 [v] u fun r _ => r = .tuple #[.int .i64 z, .bool true] := by
 obtain ⟨a, n', c, rfl, hN⟩ := h
 obtain ⟨a, c, e, _⟩ := id hN
 cases e
 have hl := lim_len hz
 generalize hn : z.natAbs = n at hN hz hl ⊢
 refine Fn0.of Tryz.func190 (by kernel_rfl) (by kernel_rfl) ?_
 refine G.gtrF ((limbs n).length : Int) 3 (by kernel_rfl) (by omega) ?_
 refine G.call0 _ _ (by kernel_rfl) Tryz.call217 (natAt0 hN hz 2) ?_
 rintro v1 u1 l1 rfl
 rw [getD_past (k := 2) (by omega)]
 refine G.cmpG .gtr .u64 ((0 : Nat) : Int) 4 false (by kernel_rfl) rfl (by simp [cmpZ]) ?_
 refine G.call0 _ _ (by kernel_rfl) Tryz.call217 (natAt0 (hN.mono l1) hz 2) ?_
 rintro v2 u2 l2 rfl
 rw [getD_past (k := 2) (by omega)]
 refine G.mul64 ((0 : Nat) : Int) 1000000000 0 (by kernel_rfl) (by omega) (by omega) (by omega) ?_
 refine G.mul64 0 1000000000 0 (by kernel_rfl) (by omega) (by omega) (by omega) ?_
 refine G.call0 _ _ (by kernel_rfl) Tryz.call215 (natSmall0 (hN.mono (l1.trans l2)) hz) ?_
 rintro v3 u3 l3 rfl
 refine G.add64 0 (n : Int) (n : Int) (by kernel_rfl) (by omega) (by omega) (by omega) ?_
 refine G.cmpG .gtr .u64 (n : Int) 4611686018427387904 false (by kernel_rfl) rfl (by simp [cmpZ]; omega) ?_
 by_cases hneg : z < 0
 ·rw [decide_eq_true hneg]
  refine G.convI .u64 .i64 .u64 (n : Int) (n : Int) (by kernel_rfl) ?_ ?_
  ·simp only [IntKind.wrap, IntKind.signed, IntKind.bits]; simp; omega
  refine G.neg (n : Int) z (by kernel_rfl) (by omega) (by omega) (by omega) ?_
  exact G.ret (.tuple #[.int .i64 z, .bool true]) (by kernel_rfl) ⟨rfl, rfl⟩
 ·rw [decide_eq_false hneg]
  refine G.convI .u64 .i64 .u64 (n : Int) (n : Int) (by kernel_rfl) ?_ ?_
  ·simp only [IntKind.wrap, IntKind.signed, IntKind.bits]; simp; omega
  obtain rfl : z = (n : Int) := by omega
  exact G.ret (.tuple #[.int .i64 (n : Int), .bool true]) (by kernel_rfl) ⟨rfl, rfl⟩
end Go.Proofs.YtpdboaedoimahaaGreatDoor
end
section
set_option linter.unusedSectionVars false
set_option linter.unusedVariables false
namespace Go.Proofs.YtpdboaedoimahaaGreatDoor
open Go.RowKit Go.MapKept
theorem small_dig {z : Int} (h : z.natAbs < 1000000000000000000) : Lib.nDigits z.natAbs ≤ 400 := Nat.le_trans (dig_of_lt (k := 18) (by omega) (by omega)) (by omega)
theorem intSmall0 {u : PH} {z : Int} (h : z.natAbs < 1000000000000000000) : Fn0 Tryz.prog 147 [.string (mkS (Lib.itoa z))] u fun v _ => v = .tuple #[.int .i64 z, .bool true] := by
 refine Fn0.of Tryz.func147 (by kernel_rfl) (by kernel_rfl) ?_
 refine G.call0 _ _ (by kernel_rfl) Tryz.call125 (intValid0 (small_dig h)) ?_
 rintro v1 u1 l1 rfl
 refine G.call0 _ _ (by kernel_rfl) Tryz.call177 (intRead0 (small_dig h)) ?_
 intro v2 u2 l2 k2
 obtain ⟨b2, a2, n2, c2, rfl⟩ := k2.opn
 refine G.call0 _ _ (by kernel_rfl) Tryz.call190 (numSmall0 k2 h) ?_
 rintro v3 u3 l3 rfl
 exact G.ret (.tuple #[.int .i64 z, .bool true]) (by kernel_rfl) ⟨rfl, rfl⟩
theorem parts0 {u : PH} {q : Rat} (h : Tx q) : Fn0 Tryz.prog 146 [.string (mkS (ratT q))] u fun v _ => v = .tuple #[.string (mkS (Lib.itoa q.num)), .string (mkS (Lib.itoa (q.den : Int))), .bool true] := by
 refine Fn0.of Tryz.func146 (by kernel_rfl) (by kernel_rfl) ?_
 refine G.call0 _ _ (by kernel_rfl) Tryz.call66 (ratValid0 h) ?_
 rintro v1 u1 l1 rfl
 refine G.call0 _ _ (by kernel_rfl) Tryz.call124 (cutT h) ?_
 rintro v2 u2 l2 rfl
 by_cases hd : q.den = 1
 ·rw [if_pos hd, decide_eq_false (by simp [hd]), hd, show ((1 : Nat) : Int) = 1 from rfl, itoa_one]
  exact G.ret (.tuple #[.string (mkS (Lib.itoa q.num)), .string (mkS [49]), .bool true]) (by kernel_rfl) ⟨rfl, rfl⟩
 ·rw [if_neg hd, decide_eq_true hd]
  exact G.ret (.tuple #[.string (mkS (Lib.itoa q.num)), .string (mkS (Lib.itoa (q.den : Int))), .bool true]) (by kernel_rfl) ⟨rfl, rfl⟩
theorem bounded0 {u : PH} {z : Int} (h : z.natAbs ≤ 1000000000) : Fn0 Tryz.prog 145 [.string (mkS (Lib.itoa z))] u fun v _ => v = .bool true := by
 refine Fn0.of Tryz.func145 (by kernel_rfl) (by kernel_rfl) ?_
 refine G.call0 _ _ (by kernel_rfl) Tryz.call147 (intSmall0 (z := z) (by omega)) ?_
 rintro v1 u1 l1 rfl
 refine G.geqT z (-1000000000) (by kernel_rfl) (by omega) ?_
 refine G.leqT z 1000000000 (by kernel_rfl) (by omega) ?_
 exact G.ret (.bool true) (by kernel_rfl) ⟨rfl, rfl⟩
structure Dat (q : Rat) : Prop where
 num : q.num.natAbs ≤ 1000000000
 den : q.den ≤ 12
theorem Dat.tx {q : Rat} (h : Dat q) : Tx q := ⟨small_dig (by have := h.num; omega), by have := small_dig (z := (q.den : Int)) (by have := h.den; omega); simpa using this⟩
theorem ratT_nil {q : Rat} : ratT q ≠ [] := by
 intro e
 unfold ratT at e
 split at e
 ·by_cases h : q.num < 0
  ·rw [itoa_neg h] at e; cases e
  ·rw [Lib.itoa, if_neg h] at e
   exact dec_ne_nil _ e
 ·simp at e
theorem valueN0 {u : PH} {s : List UInt8} {q : Rat} (h : Dat q) : Fn0 Tryz.prog 82 [attV (s, 2), .string (mkS (ratT q))] u fun v _ => v = .bool true := by
 have hd := h.den
 have hp := q.den_pos
 refine Fn0.of Tryz.func82 (by kernel_rfl) (by kernel_rfl) ?_
 refine G.eqlF ((2 : Nat) : Int) 1 (by kernel_rfl) (by omega) ?_
 refine G.eqlT ((2 : Nat) : Int) 2 (by kernel_rfl) (by omega) ?_
 refine G.call0 _ _ (by kernel_rfl) Tryz.call146 (parts0 h.tx) ?_
 rintro v1 u1 l1 rfl
 refine G.call0 _ _ (by kernel_rfl) Tryz.call147 (intSmall0 (z := (q.den : Int)) (by omega)) ?_
 rintro v2 u2 l2 rfl
 refine G.eqSF (ratT q) [] (by kernel_rfl) ratT_nil ?_
 refine G.call0 _ _ (by kernel_rfl) Tryz.call145 (bounded0 h.num) ?_
 rintro v3 u3 l3 rfl
 refine G.geqT (q.den : Int) 1 (by kernel_rfl) (by omega) ?_
 refine G.leqT (q.den : Int) 12 (by kernel_rfl) (by omega) ?_
 exact G.ret (.bool true) (by kernel_rfl) ⟨rfl, rfl⟩
end Go.Proofs.YtpdboaedoimahaaGreatDoor
end
section
set_option linter.unusedSectionVars false
set_option linter.unusedVariables false
namespace Go.Proofs.YtpdboaedoimahaaGreatDoor
open Go.RowKit Go.MapKept
def CF.one1 (p : Par) (q : Rat) : CF := ⟨1, setF (fun _ => 0) p q, setF (fun _ => 0) (p, p) (q * q)⟩
end Go.Proofs.YtpdboaedoimahaaGreatDoor
end
section
set_option linter.unusedSectionVars false
set_option linter.unusedVariables false
namespace Go.Proofs.YtpdboaedoimahaaGreatDoor
open Go.RowKit Go.MapKept
end Go.Proofs.YtpdboaedoimahaaGreatDoor
end
section
set_option linter.unusedSectionVars false
set_option linter.unusedVariables false
namespace Go.Proofs.YtpdboaedoimahaaGreatDoor
open Go.RowKit Go.MapKept
end Go.Proofs.YtpdboaedoimahaaGreatDoor
end
section
set_option linter.unusedSectionVars false
set_option linter.unusedVariables false
namespace Go.Proofs.YtpdboaedoimahaaGreatDoor
open Go.RowKit Go.MapKept
theorem one1_cfd {d N : Nat} {p : Par} {q : Rat} (h1 : Dn d N 1) (hq : Dn d N q) (h2 : Dn d N (q * q)) : CFD d N (CF.one1 p q) :=
 ⟨h1, fun k => by
  show Dn d N (setF (fun _ => (0 : Rat)) p q k)
  unfold setF; split
  ·exact hq
  ·exact Dn.zero _ _, fun k => by
  show Dn d N (setF (fun _ => (0 : Rat)) (p, p) (q * q) k)
  unfold setF; split
  ·exact h2
  ·exact Dn.zero _ _⟩
theorem one1_cfv {p : Par} {q : Rat} (hp : PV p) : CFV (CF.one1 p q) :=
 ⟨fun k hk => by
  have hk : setF (fun _ => (0 : Rat)) p q k ≠ 0 := hk
  unfold setF at hk
  split at hk
  ·subst_vars; exact hp
  ·exact absurd rfl hk, fun k hk => by
  have hk : setF (fun _ => (0 : Rat)) (p, p) (q * q) k ≠ 0 := hk
  unfold setF at hk
  split at hk
  ·subst_vars
   exact ⟨hp, hp, fun e => by
   have e : 0 < cmpP p p := e
   have := (ordP.sym _ _).2 e
   omega⟩
  ·exact absurd rfl hk⟩
theorem ElsP.listP {u : PH} {g sz : Nat} {es : List Value} (h : ElsP u g 0 sz es) : ListP u (.slice (some ⟨g, 0, none⟩) es.length es.length) sz es := ⟨_, _, rfl, Nat.le_refl _, fun j e hj => ⟨g, 0, rfl, h j e hj⟩⟩
theorem names_of {L : List (List UInt8)} (h : (L.all wordB && decide L.Nodup) = true) : Names L := by
 rw [Bool.and_eq_true, List.all_eq_true, decide_eq_true_iff] at h
 exact ⟨h.1, h.2⟩
end Go.Proofs.YtpdboaedoimahaaGreatDoor
end
section
set_option linter.unusedSectionVars false
set_option linter.unusedVariables false
namespace Go.Proofs.YtpdboaedoimahaaGreatDoor
open Go.RowKit Go.MapKept
end Go.Proofs.YtpdboaedoimahaaGreatDoor
end
section
set_option linter.unusedSectionVars false
set_option linter.unusedVariables false
namespace Go.Proofs.YtpdboaedoimahaaGreatDoor
open Go.RowKit
end Go.Proofs.YtpdboaedoimahaaGreatDoor
end
section
set_option linter.unusedSectionVars false
set_option linter.unusedVariables false
namespace Go.Proofs.YtpdboaedoimahaaGreatDoor
open Go.RowKit Go.MapKept
theorem pw {n : Nat} (h : n < 10 ^ 30) : n < 10 ^ 100 := Nat.lt_of_lt_of_le h (by decide +kernel)
end Go.Proofs.YtpdboaedoimahaaGreatDoor
end
section
set_option linter.unusedSectionVars false
set_option linter.unusedVariables false
namespace Go.Proofs.YtpdboaedoimahaaGreatDoor
open Go.RowKit Go.MapKept
end Go.Proofs.YtpdboaedoimahaaGreatDoor
end
section
set_option linter.unusedSectionVars false
set_option linter.unusedVariables false
namespace Go.Proofs.YtpdboaedoimahaaGreatDoor
open Go.RowKit Go.MapKept
theorem cmpP_lt {p q : Par} (h : p.1 < q.1) : cmpP p q < 0 := by
 have e : cmpI p.1 q.1 = -1 := by unfold cmpI; rw [if_pos h]
 unfold cmpP; rw [e, if_pos (by decide)]; decide
theorem cmpP_gt {p q : Par} (h : ¬ p.1 < q.1) (h' : p.1 ≠ q.1) : ¬ cmpP p q < 0 := by
 have e : cmpI p.1 q.1 = 1 := by unfold cmpI; rw [if_neg h, if_pos (by omega)]
 unfold cmpP; rw [e, if_pos (by decide)]; decide
theorem cmpP_eq {p q : Par} (h : p.1 = q.1) : decide (cmpP p q < 0) = Op.bytesLess p.2 q.2 := by
 have e : cmpI p.1 q.1 = 0 := by unfold cmpI; rw [if_neg (by omega), if_neg (by omega)]
 unfold cmpP; rw [e, if_neg (by decide)]
 unfold cmpS
 cases Op.bytesLess p.2 q.2 with
 | true => rfl
 | false =>
  simp only [Bool.false_eq_true, if_false]
  split <;> rfl
theorem refLess0 {u : PH} (p q : Par) (r : Bool) (h : decide (cmpP p q < 0) = r) : Fn0 Tryz.prog 109 [parV p, parV q] u fun v _ => v = .bool r := by
 refine Fn0.of Tryz.func109 (by kernel_rfl) (by kernel_rfl) ?_
 by_cases h1 : p.1 < q.1
 ·refine G.lssT p.1 q.1 (by kernel_rfl) h1 ?_
  rw [decide_eq_true (cmpP_lt h1)] at h
  subst h
  exact G.ret (.bool true) (by kernel_rfl) ⟨rfl, rfl⟩
 ·refine G.lssF p.1 q.1 (by kernel_rfl) h1 ?_
  by_cases h2 : p.1 = q.1
  ·rw [cmpP_eq h2] at h
   refine G.eqlT p.1 q.1 (by kernel_rfl) h2 ?_
   refine G.ltS p.2 q.2 r (by kernel_rfl) h ?_
   cases r with
   | true => exact G.ret (.bool true) (by kernel_rfl) ⟨rfl, rfl⟩
   | false => exact G.ret (.bool false) (by kernel_rfl) ⟨rfl, rfl⟩
  ·rw [decide_eq_false (cmpP_gt h1 h2)] at h
   subst h
   refine G.eqlF p.1 q.1 (by kernel_rfl) h2 ?_
   exact G.ret (.bool false) (by kernel_rfl) ⟨rfl, rfl⟩
end Go.Proofs.YtpdboaedoimahaaGreatDoor
end
