/- Joined out of parts of one proof by a program: contracts of the functions that the statement reaches, and the plain facts behind them. -/
import Derived.Test.YtpdboaedoimahaaGreatDoorKB02
import Derived.Outline
import Derived.Deep.RegionWith
import Derived.Deep.DeepCutAuto
import Derived.Laws.CopyOwn
import Derived.Deep.LoopGhost
import Derived.Deep.RegionHeld3
set_option linter.unusedVariables false
set_option linter.unusedSimpArgs false
set_option linter.unusedSectionVars false
section
namespace Go.Proofs.YtpdboaedoimahaaGreatDoor
structure Norm (n k f : Nat) : Prop where
  len : nl n = k + 2
  pos : 1 ≤ f
  low : f < 1000000000
  vlen : nl (n * f) = k + 2
  vtop : 500000000 ≤ (limbs (n * f)).getD (k + 1) 0
  fle : f * 1000000000 ^ (k + 1) ≤ n * f
theorem val_top (n k : Nat) (h : nl n = k + 2) : n = val ((limbs n).take (k + 1)) + 1000000000 ^ (k + 1) * (limbs n).getD (k + 1) 0 := by
  have := val_take_succ (limbs n) (k + 1)
  rw [List.take_of_length_le (show (limbs n).length ≤ k + 1 + 1 from Nat.le_of_eq h), val_limbs] at this
  exact this
theorem top_pos (n k : Nat) (h : nl n = k + 2) : 1 ≤ (limbs n).getD (k + 1) 0 := by
  have hne : n ≠ 0 := by intro e; rw [e, nl_zero] at h; omega
  have := getLast_limbs hne
  have hl : (limbs n).length = k + 2 := h
  rw [hl] at this
  simp only [Nat.add_sub_cancel, show k + 2 - 1 = k + 1 from rfl] at this
  omega
theorem Norm.make {n k : Nat} (h : nl n = k + 2) : Norm n k (1000000000 / ((limbs n).getD (k + 1) 0 + 1)) := by
  have h1 := top_pos n k h
  have h2 := (low_limbs n).getD (k + 1)
  have hn := val_top n k h
  have hlt := val_take_lt (low_limbs n) (k + 1)
  generalize (limbs n).getD (k + 1) 0 = b at *
  have hdm := Nat.div_add_mod 1000000000 (b + 1)
  have hml := Nat.mod_lt 1000000000 (show 0 < b + 1 by omega)
  generalize hf : 1000000000 / (b + 1) = f at *
  generalize 1000000000 % (b + 1) = r at *
  have hf1 : 1 ≤ f := by
    rcases Nat.eq_zero_or_pos f with h0 | h0
    · rw [h0, Nat.mul_zero] at hdm; omega
    · exact h0
  have hf2 : f < 1000000000 := by
    have : (1 + 1) * f ≤ (b + 1) * f := Nat.mul_le_mul_right _ (by omega)
    omega
  have hbf : b * f + f + r = 1000000000 := by rw [Nat.add_mul, Nat.one_mul] at hdm; exact hdm
  have hbf2 : b + f ≤ b * f + 1 := by
    obtain ⟨x, rfl⟩ : ∃ x, b = x + 1 := ⟨b - 1, by omega⟩
    obtain ⟨y, rfl⟩ : ∃ y, f = y + 1 := ⟨f - 1, by omega⟩
    rw [Nat.add_mul, Nat.mul_add, Nat.one_mul, Nat.mul_one]
    have : 0 ≤ x * y := Nat.zero_le _
    omega
  have hbig : 500000000 ≤ b * f := by omega
  generalize hx : val ((limbs n).take (k + 1)) = x at *
  generalize hP : 1000000000 ^ (k + 1) = P at *
  have hPn : P ≤ n := by
    have : P * 1 ≤ P * b := Nat.mul_le_mul_left _ h1
    omega
  have hup : n * f < P * 1000000000 := by
    have e1 : n < P * (b + 1) := by rw [Nat.mul_add, Nat.mul_one]; omega
    have e2 : n * f < P * (b + 1) * f := Nat.mul_lt_mul_of_pos_right e1 (by omega)
    have e3 : P * (b + 1) * f ≤ P * 1000000000 := by rw [Nat.mul_assoc]; exact Nat.mul_le_mul_left _ (by omega)
    omega
  have hlo : P ≤ n * f := by
    have : n * 1 ≤ n * f := Nat.mul_le_mul_left _ hf1
    omega
  have hvl : nl (n * f) = k + 2 := by
    refine Nat.le_antisymm (nl_le_of_lt (by rw [show k + 2 = k + 1 + 1 from rfl, Nat.pow_succ, hP]; exact hup)) ?_
    rcases Nat.lt_or_ge (nl (n * f)) (k + 2) with h3 | h3
    · have h4 := lt_pow_nl (n * f)
      have h5 : 1000000000 ^ nl (n * f) ≤ 1000000000 ^ (k + 1) := Nat.pow_le_pow_right (by omega) (by omega)
      rw [hP] at h5; omega
    · exact h3
  refine ⟨h, hf1, hf2, hvl, ?_, ?_⟩
  · have hv := val_top (n * f) k hvl
    have hvt := val_take_lt (low_limbs (n * f)) (k + 1)
    rw [hP] at hv hvt
    generalize (limbs (n * f)).getD (k + 1) 0 = t at *
    have e1 : P * (b * f) ≤ n * f := by
      rw [← Nat.mul_assoc]; exact Nat.mul_le_mul_right _ (by omega)
    have e2 : n * f < P * (t + 1) := by rw [Nat.mul_add, Nat.mul_one]; omega
    have e3 : P * (b * f) < P * (t + 1) := by omega
    have := Nat.lt_of_mul_lt_mul_left e3
    omega
  · rw [Nat.mul_comm n]; exact Nat.mul_le_mul_left _ (by rw [hP]; exact hPn)
theorem DivSt.start {m n k f M : Nat} (h : Norm n k f) (hM : nl m + 1 = M + (k + 2)) :
    DivSt (m * f) (n * f) (k + 2) M M (limbs (m * f) ++ List.replicate (M + (k + 2) - nl (m * f)) 0) (List.replicate M 0) := by
  have hl : nl (m * f) ≤ M + (k + 2) := by
    rw [← hM]
    refine Nat.le_trans (nl_mul m f) (Nat.add_le_add_left ?_ _)
    exact nl_le_of_lt (by simpa using h.low)
  have hlen : (limbs (m * f) ++ List.replicate (M + (k + 2) - nl (m * f)) 0).length = M + (k + 2) := by
    rw [List.length_append, List.length_replicate]; unfold nl at *; omega
  have hval : val (limbs (m * f) ++ List.replicate (M + (k + 2) - nl (m * f)) 0) = m * f := by
    rw [val_append, val_zeros, val_limbs]; omega
  refine ⟨hlen, by simp, (low_limbs _).append (Low.zeros _), Low.zeros _, ?_, ?_, ?_⟩
  · have hs := val_split (limbs (m * f) ++ List.replicate (M + (k + 2) - nl (m * f)) 0) M (by omega)
    rw [hval] at hs
    generalize val ((limbs (m * f) ++ List.replicate (M + (k + 2) - nl (m * f)) 0).drop M) = y at *
    generalize val ((limbs (m * f) ++ List.replicate (M + (k + 2) - nl (m * f)) 0).take M) = x at *
    have hm := lt_pow_nl m
    rw [show nl m = M + (k + 1) by omega, Nat.pow_add] at hm
    have hfle := h.fle
    have hpos := h.pos
    generalize 1000000000 ^ (k + 1) = P at *
    generalize 1000000000 ^ M = Q at *
    have e1 : m * f < Q * P * f := Nat.mul_lt_mul_of_pos_right hm (by omega)
    have e2 : Q * P * f = Q * (f * P) := by rw [Nat.mul_assoc, Nat.mul_comm P]
    have e3 : Q * y < Q * (f * P) := by omega
    have := Nat.lt_of_mul_lt_mul_left e3
    omega
  · rw [hval, List.drop_of_length_le (by simp)]; simp [val]
  · intro j hj
    have : (limbs (m * f) ++ List.replicate (M + (k + 2) - nl (m * f)) 0)[j]? = none := List.getElem?_eq_none (by omega)
    rw [List.getD_eq_getElem?_getD, this]; rfl
theorem div_norm {m n f : Nat} (hf : 0 < f) : m * f / (n * f) = m / n ∧ m * f % (n * f) = (m % n) * f :=
  ⟨Nat.mul_div_mul_right m n hf, Nat.mul_mod_mul_right f m n⟩
end Go.Proofs.YtpdboaedoimahaaGreatDoor
end
section
namespace Go.Proofs.YtpdboaedoimahaaGreatDoor
open Go.RowKit
def RetNat2 (w : World) (m n : Nat) (e : Ending) (w' : World) : Prop := ∃ u v, e = .returned (.tuple #[u, v]) ∧ NatV w' u m ∧ NatV w' v n ∧ Ext w w'
theorem cmp_ge {m n : Nat} (h : n ≤ m) : 0 ≤ sgn ((m : Int) - n) := by
  rcases Nat.lt_or_ge n m with h1 | h1
  · rw [sgn_pos (by omega)]; omega
  · rw [show (m : Int) - n = 0 by omega, sgn_zero]; omega
set_option maxRecDepth 100000 in
set_option maxHeartbeats 800000 in
theorem divide_less (va vb : Value) (m n : Nat) (w : World) (ha : NatV w va m) (hb : NatV w vb n) (sa : nl m ≤ 10000000000000) (sb : nl n ≤ 10000000000000) (hlt : m < n) :
    Calls Tryz.prog 214 #[va, vb] w (RetNat2 w 0 m) := by
  have HA := Lib.hid ha
  have hc := natCompare_any va vb m n w ha hb sa sb
  rw [sgn_neg (by omega)] at hc
  have HC := Lib.hid hc
  clear ha hb hc
  go_enter Tryz.func214, Tryz.ntmps214
  go_wp2_with fail
  refine HC.out.mono ?_
  rintro e w' ⟨rfl, q, rfl⟩
  go_wp2_with fail
  go_ret2
  exact ⟨_, _, rfl, NatV.zero _ _ _, HA.out.ext ((Ext.refl w).drewN q), (Ext.refl w).drewN q⟩
theorem limbs_one {d : Nat} (h0 : d ≠ 0) (h : d < 1000000000) : limbs d = [d] := by
  rw [limbs_pos h0, show d / 1000000000 = 0 by omega, limbs_zero, show d % 1000000000 = d by omega]
theorem row_one (w1 : World) (r : Nat) : Row (w1.alloc (Obj.cells #[Value.int IntKind.u64 (r : Int)] 215)) (some ⟨w1.heap.size, 0, none⟩) (u64s [r]) := by
  intro j hj
  obtain rfl : j = 0 := by simpa [u64s] using hj
  exact ⟨_, _, rfl, by simp [u64s]⟩
set_option maxRecDepth 100000 in
set_option maxHeartbeats 800000 in
theorem divide_short (va vb : Value) (m n : Nat) (w : World) (ha : NatV w va m) (hb : NatV w vb n) (sa : nl m ≤ 10000000000000) (hn0 : 0 < n) (hn : n < 1000000000) (hge : n ≤ m) :
    Calls Tryz.prog 214 #[va, vb] w (RetNat2 w (m / n) (m % n)) := by
  have hl := limbs_one (by omega) hn
  have HA := Lib.hid ha
  have hc := natCompare_any va vb m n w ha hb sa (by unfold nl; rw [hl]; simp)
  obtain ⟨s, hs⟩ : ∃ s, s = sgn ((m : Int) - n) := ⟨_, rfl⟩
  have hs0 : 0 ≤ s := by rw [hs]; exact cmp_ge hge
  rw [← hs] at hc
  have HC := Lib.hid hc
  obtain ⟨b, cb, rfl, _, hrow⟩ := hb
  rw [hl] at hrow HC ⊢
  obtain ⟨bb, ob, rfl, hcb⟩ := hrow.at (j := 0) (by simp)
  simp only [List.getD_cons_zero, Nat.add_zero] at hcb
  have hd0 : decide (s < 0) = false := by simp; omega
  clear ha hc hrow hs hl
  go_enter Tryz.func214, Tryz.ntmps214
  go_wp2_with fail
  refine HC.out.mono ?_
  rintro e w' ⟨rfl, q, rfl⟩
  go_wp2_with fail
  have hsh := natShort_any va m n _ (HA.out.ext ((Ext.refl w).drewN q)) sa hn0 hn
  obtain ⟨r, hr⟩ : ∃ r, r = m % n := ⟨_, rfl⟩
  rw [← hr] at hsh
  have hrn : r < 1000000000 := by rw [hr]; have := Nat.mod_lt m hn0; omega
  have HR := Lib.hid hr
  clear hr
  refine hsh.mono ?_
  rintro e w1 ⟨v, rfl, hv, hx⟩
  have HV := Lib.hid hv
  have HX := Lib.hid hx
  clear hv hx hsh
  go_wp2_with fail
  have hrow : Row (w1.alloc (Obj.cells #[Value.int IntKind.u64 (r : Int)] 215)) (some ⟨w1.heap.size, 0, none⟩) (u64s [r]) := row_one w1 r
  refine (trim_len _ _ _ [r] _ rfl (by simp) (by simp) hrow).mono ?_
  rintro e w' ⟨rfl, rfl⟩
  have hnat := nat_of_trim (cap := 1) (Low.cons hrn Low.nil) hrow (n := r) (by simp [val]) (by simp)
  have HNAT := Lib.hid hnat
  clear hnat hrow
  go_wp2_with fail
  go_ret2
  have hx2 := (((Ext.refl w).drewN q).trans HX.out).alloc (Obj.cells #[Value.int IntKind.u64 (r : Int)] 215)
  exact ⟨_, _, rfl, HV.out.ext ((Ext.refl w1).alloc _), by rw [← HR.out]; exact HNAT.out, hx2⟩
def zrow (n : Nat) : Array Value := (u64s (List.replicate n 0)).toArray
theorem run_make_zeros (W : World) (N : Int) (n : Nat) (hN : N = n) (hn : n ≤ 30000000000000) :
    (Instr.makeSlice 105 (.int .i64 N) (.int .i64 N)).run Tryz.prog W = .ok (.slice (some ⟨W.heap.size, 0, none⟩) n n) (W.alloc (.cells (zrow n) 215)) := by
  subst hN
  obtain ⟨i0, hi, hz0, hz1, hz2⟩ := info_parts Tryz.info215
  have := run_make (P := Tryz.prog) W 105 215 i0 (.int .u64 0) Tryz.underlying105 hi hz0 .i64 .i64 n n (by omega) (by omega) (by rw [hz2]; omega) (by omega)
  rw [this, Int.toNat_natCast, hz1]
  have e : madeCells (Value.int .u64 0).cells (n * 1) = zrow n := by
    apply Array.ext'; rw [made_u64]; rfl
  rw [e]
theorem owns_zeros (W : World) (base n : Nat) (hb : base ≤ W.heap.size) (hn : n ≤ 30000000000000) :
    (W.alloc (.cells (zrow n) 215)).ownsRow base 215 1 (.slice (some ⟨W.heap.size, 0, none⟩) n n) n (u64s (List.replicate n 0)) := by
  have := World.ownsRow_lit (e := 215) (size := 1) (base := base) W (zrow n) n hb (by unfold maxLen; omega) (by simp [zrow])
  exact this
def MadeTwo (w : World) (B N V : Nat) (u v : Value) (wx : World) : Prop :=
  ∃ g av nv cv, u = .slice (some ⟨g, 0, none⟩) N N ∧ v = .slice av nv cv ∧ nv = nl V ∧ wx.ownsRow B 215 1 (.slice (some ⟨g, 0, none⟩) N N) N (u64s (List.replicate N 0)) ∧
    RowOff wx g av (u64s (limbs V)) ∧ Ext w wx ∧ w.heap.size ≤ g
theorem Ext.grownBy {w w' : World} (h : Ext w w') (r : Option Nat) : w.grownBy w' r := ⟨h.os, h.tape, h.output, h.size, fun k hk _ => Below.block h k hk⟩
theorem owns_ext {w w' : World} {base : Nat} {e : TypeId} {size g n cap k : Nat} {xs : List Value} (h : w.ownsRow base e size (.slice (some ⟨g, 0, none⟩) n cap) k xs) (x : Ext w w') :
    w'.ownsRow base e size (.slice (some ⟨g, 0, none⟩) n cap) k xs := h.kept (x.grownBy none) (Or.inr (by simp [Value.ownBlock]))
theorem made_a {W2 w3 : World} {N V kk cap : Nat} (hN : N ≤ 30000000000000) (hv : NatV w3 (.slice (some ⟨(W2.alloc (.cells (zrow N) 215)).drew.heap.size, 0, none⟩) kk cap) V)
    (hx : Ext (W2.alloc (.cells (zrow N) 215)).drew w3) :
    MadeTwo W2 W2.heap.size N V (.slice (some ⟨W2.heap.size, 0, none⟩) N N) (.slice (some ⟨W2.heap.size + 1, 0, none⟩) kk cap) w3 := by
  have hs : (W2.alloc (.cells (zrow N) 215)).drew.heap.size = W2.heap.size + 1 := by simp
  rw [hs] at hv
  obtain ⟨a', c', e1, _, hr⟩ := hv
  simp only [Value.slice.injEq] at e1
  obtain ⟨rfl, e2, rfl⟩ := e1
  refine ⟨W2.heap.size, _, _, _, rfl, rfl, e2, owns_ext (World.ownsRow.drew (owns_zeros W2 _ N (Nat.le_refl _) hN)) hx, ⟨hr, ?_⟩, (((Ext.refl W2).alloc _).drew).trans hx, Nat.le_refl _⟩
  intro b off hb
  simp only [Option.some.injEq, Addr.mk.injEq, and_true] at hb
  omega
theorem made_b {W2 w3 : World} {N V kk cap : Nat} (hN : N ≤ 30000000000000) (hV : 0 < V) (hv : NatV w3 (.slice (some ⟨W2.drew.heap.size, 0, none⟩) kk cap) V) (hx : Ext W2.drew w3) :
    MadeTwo W2 W2.heap.size N V (.slice (some ⟨w3.heap.size, 0, none⟩) N N) (.slice (some ⟨W2.heap.size, 0, none⟩) kk cap) (w3.alloc (.cells (zrow N) 215)) := by
  have hs : W2.drew.heap.size = W2.heap.size := rfl
  rw [hs] at hv
  obtain ⟨a', c', e1, _, hr⟩ := hv
  simp only [Value.slice.injEq] at e1
  obtain ⟨rfl, e2, rfl⟩ := e1
  have hlt : W2.heap.size < w3.heap.size := by
    obtain ⟨b, off, h1, h2⟩ := hr.at (j := 0) (by
      have : limbs V ≠ [] := fun e => by have := limbs_eq_nil.1 e; omega
      exact List.length_pos_iff.2 this)
    simp only [Option.some.injEq, Addr.mk.injEq, and_true] at h1
    have := block_lt_of_cell h2
    simp only at this
    omega
  have hx2 : Ext W2 w3 := ((Ext.refl W2).drew).trans hx
  refine ⟨w3.heap.size, _, _, _, rfl, rfl, e2, owns_zeros w3 _ N hx2.size hN, ⟨hr.ext ((Ext.refl w3).alloc _), ?_⟩, hx2.alloc _, hx2.size⟩
  intro b off hb
  simp only [Option.some.injEq, Addr.mk.injEq, and_true] at hb
  omega
theorem owns_block {w : World} {base g n : Nat} {e : TypeId} {xs : List Value} (h : w.ownsRow base e 1 (.slice (some ⟨g, 0, none⟩) n n) n xs) :
    w.heap[g]? = some (.cells xs.toArray e (0, 0)) ∧ base ≤ g := by
  rcases h.2 with ⟨h', _⟩ | ⟨g', cap', cur, h', hb, hg, _, _, hsz, htake⟩
  · simp at h'
  · simp only [Value.slice.injEq, Option.some.injEq, Addr.mk.injEq, and_true, true_and] at h'
    obtain ⟨rfl, rfl⟩ := h'
    rw [List.take_of_length_le (by simp; omega)] at htake
    rw [← htake]
    exact ⟨by simpa using hg, hb⟩
theorem block_owns {w : World} {base g n : Nat} {e : TypeId} {xs : List Value} (h : w.heap[g]? = some (.cells xs.toArray e (0, 0))) (hb : base ≤ g) (hn : xs.length = n) (hm : n ≤ 30000000000000) :
    w.ownsRow base e 1 (.slice (some ⟨g, 0, none⟩) n n) n xs := by
  refine ⟨by omega, Or.inr ⟨g, n, xs.toArray, rfl, hb, h, Nat.le_refl _, by unfold maxLen; omega, by simp; omega, ?_⟩⟩
  rw [List.take_of_length_le (by simp; omega)]
theorem grown_setRow (w : World) (g : Nat) (cs : Array Value) : w.grownBy (w.setRow g cs) (some g) :=
  ⟨rfl, rfl, rfl, by simp, fun k _ hk => setRow_other w g k _ (fun e => hk (by simp [e]))⟩
theorem copied {w : World} {base g N : Nat} {l : List Nat} (h : w.ownsRow base 215 1 (.slice (some ⟨g, 0, none⟩) N N) N (u64s (List.replicate N 0))) (hl : l.length ≤ N) (hN : N ≤ 30000000000000) :
    (w.setRow g ((u64s (List.replicate N 0)).toArray.toList.take 0 ++ (u64s l ++ (u64s (List.replicate N 0)).toArray.toList.drop (0 + (u64s l).length))).toArray).ownsRow base 215 1 (.slice (some ⟨g, 0, none⟩) N N) N
      (u64s (l ++ List.replicate (N - l.length) 0)) := by
  obtain ⟨h1, h2⟩ := owns_block h
  have e : (u64s (List.replicate N 0)).toArray.toList.take 0 ++ (u64s l ++ (u64s (List.replicate N 0)).toArray.toList.drop (0 + (u64s l).length)) = u64s (l ++ List.replicate (N - l.length) 0) := by
    simp [u64s]
  rw [e]
  exact block_owns (setRow_heap w g _ _ _ _ h1) h2 (by simp; omega) hN
theorem wpList_copy_zeros {w : World} {ops : Array Oper} {rest : List Oper} {o : Oper} {a : Act} {Q : Exit → Act → World → Prop} (hgd : o.guard = none) (d s : Operand)
    (ho : o.op = .call { callee := .builtin .copy, args := #[d, s], argTypes := #[105, 105] })
    (base g N sLen sCap : Nat) (ad : Addr) (l : List Nat) (hd : a.eval d = .slice (some ⟨g, 0, none⟩) N N) (hs : a.eval s = .slice (some ad) sLen sCap)
    (hown : w.ownsRow base 215 1 (.slice (some ⟨g, 0, none⟩) N N) N (u64s (List.replicate N 0))) (hl : l.length = sLen) (hN : N ≤ 30000000000000) (hle : l.length ≤ N)
    (hsrc : Row w (some ad) (u64s l))
    (h : ∀ w', w'.ownsRow base 215 1 (.slice (some ⟨g, 0, none⟩) N N) N (u64s (l ++ List.replicate (N - l.length) 0)) → w.grownBy w' (some g) → wpList Tryz.prog ops Q rest (a.put o.dst (goInt (u64s l).length)) w') :
    wpList Tryz.prog ops Q (o :: rest) a w := by
  obtain ⟨i0, hi, hz0, hz1, hz2⟩ := info_parts Tryz.info215
  refine wpList_copy_own hgd d s _ _ ho 215 Tryz.underlying105 (by rw [hi]; simp [hz1]) g 0 N N ad sLen sCap hd hs (u64s (List.replicate N 0)).toArray 215 (owns_block hown).1 (u64s l)
    (by rw [length_u64s, hl]; exact (Nat.min_eq_left (by omega)).symm) (fun j v hj => ?_) (by simp; omega) (fun v hv => ?_) (h _ (copied hown hle hN) (grown_setRow _ _ _))
  · have hjl : j < l.length := by
      rcases Nat.lt_or_ge j l.length with h | h
      · exact h
      · rw [List.getElem?_eq_none (by simpa using h)] at hj; cases hj
    obtain ⟨b', off', h1, h2⟩ := hsrc j (by simpa using hjl)
    simp only [Option.some.injEq] at h1
    subst h1
    have : (⟨b', off', none⟩ : Addr).add j = ⟨b', off' + j, none⟩ := by
      unfold Addr.add; split
      · rename_i h; subst h; rfl
      · rfl
    rw [this, h2, List.getD_eq_getElem?_getD, hj]; rfl
  · obtain ⟨x, _, rfl⟩ := List.mem_map.1 hv; rfl
def DivRel (w : World) (A V n M N g gq : Nat) (av : Option Addr) (i : Value) (wr : World) : Prop :=
  ∃ (j : Nat) (u qs : List Nat), j ≤ M ∧ i = .int .i64 ((j : Int) - 1) ∧ DivSt A V n M j u qs ∧
    wr.ownsRow w.heap.size 215 1 (.slice (some ⟨g, 0, none⟩) N N) N (u64s u) ∧ wr.ownsRow w.heap.size 215 1 (.slice (some ⟨gq, 0, none⟩) M M) M (u64s qs) ∧
    RowOff wr g av (u64s (limbs V)) ∧ RowOff wr gq av (u64s (limbs V)) ∧ Ext w wr
theorem RowOff.ext {w w' : World} {g : Nat} {a : Option Addr} {cs : List Value} (h : RowOff w g a cs) (x : Ext w w') : RowOff w' g a cs := ⟨h.1.ext x, h.2⟩
theorem RowOff.new {w w' : World} {g : Nat} {a : Option Addr} {cs : List Value} (h : RowOff w g a cs) (hc : 0 < cs.length) (x : Ext w w') : RowOff w' w.heap.size a cs := by
  refine ⟨h.1.ext x, fun b off hb => ?_⟩
  obtain ⟨b', off', h1, h2⟩ := h.1 0 hc
  have := block_lt_of_cell h2
  rw [hb] at h1
  simp only [Option.some.injEq, Addr.mk.injEq, and_true] at h1
  simp only at this
  omega
theorem owns_lt {w : World} {base g n k : Nat} {e : TypeId} {xs : List Value} (h : w.ownsRow base e 1 (.slice (some ⟨g, 0, none⟩) n n) k xs) : g < w.heap.size := (h.lt g rfl).2
theorem owns_grown {w w' : World} {base e g g' n k : Nat} {xs : List Value} (h : w.ownsRow base e 1 (.slice (some ⟨g, 0, none⟩) n n) k xs) (hg : w.grownBy w' (some g')) (hne : g ≠ g') :
    w'.ownsRow base e 1 (.slice (some ⟨g, 0, none⟩) n n) k xs := h.kept hg (Or.inr (by simp [Value.ownBlock, hne]))
set_option maxRecDepth 100000 in
set_option maxHeartbeats 1600000 in
theorem divide_long (va vb : Value) (m n k : Nat) (w : World) (ha : NatV w va m) (hb : NatV w vb n) (sa : nl m ≤ 5000000000000) (hn : nl n = k + 2) (hge : n ≤ m) :
    Calls Tryz.prog 214 #[va, vb] w (RetNat2 w (m / n) (m % n)) := by
  obtain ⟨i0, hi, hz0, hz1, hz2⟩ := info_parts Tryz.info215
  have HI := Lib.hid hi
  have HZ0 := Lib.hid hz0
  have HZ1 := Lib.hid hz1
  have HZ2 := Lib.hid hz2
  clear hi hz0 hz1 hz2
  have hnm : k + 2 ≤ nl m := by rw [← hn]; exact nl_mono hge
  have hc := natCompare_any va vb m n w ha hb (by omega) (by omega)
  obtain ⟨s, hs⟩ : ∃ s, s = sgn ((m : Int) - n) := ⟨_, rfl⟩
  have hs0 : 0 ≤ s := by rw [hs]; exact cmp_ge hge
  rw [← hs] at hc
  have HC := Lib.hid hc
  have HNP : Hid (0 < n) := by
    rcases Nat.eq_zero_or_pos n with h0 | h0
    · rw [h0, nl_zero] at hn; omega
    · exact h0
  have HA := Lib.hid ha
  have HB := Lib.hid hb
  have hnorm := Norm.make hn
  obtain ⟨a, ca, rfl, _, hrowa⟩ := ha
  obtain ⟨b, cb, rfl, _, hrow⟩ := hb
  have hlen : (limbs n).length = k + 2 := hn
  have hlenm : (limbs m).length = nl m := rfl
  obtain ⟨bb, ob, rfl, hcb⟩ := hrow.at (j := k + 1) (by omega)
  obtain ⟨b1, hb1⟩ : ∃ b1, b1 = (limbs n).getD (k + 1) 0 := ⟨_, rfl⟩
  have hb1l : b1 < 1000000000 := by rw [hb1]; exact (low_limbs n).getD _
  rw [← hb1] at hcb hnorm
  rw [hlen] at HC HB ⊢
  rw [hlenm] at HC HA ⊢
  obtain ⟨f, hf⟩ : ∃ f, f = 1000000000 / (b1 + 1) := ⟨_, rfl⟩
  rw [← hf] at hnorm
  obtain ⟨L, hL⟩ : ∃ L, L = nl m := ⟨_, rfl⟩
  rw [← hL] at HC HA sa hnm ⊢
  have hfi : (1000000000 : Int) / ((b1 : Int) + 1) = (f : Int) := by rw [hf]; simp
  have hf1 := hnorm.pos
  have hf2 := hnorm.low
  have HNM := Lib.hid hnorm
  have HL := Lib.hid hL
  have HF := Lib.hid hf
  have hd0 : decide (s < 0) = false := by simp; omega
  have hd1 : (((k : Int) + 2) == 1) = false := by simp; omega
  clear hc hrow hrowa hs hlen hlenm hnorm hb1 hL hf hn
  go_enter Tryz.func214, Tryz.ntmps214
  go_wp2_with fail
  refine HC.out.mono ?_
  rintro e w' ⟨rfl, q, rfl⟩
  go_upto_region 7 with fail
  have x2 : Ext w ((w.drewN q).alloc (Obj.cells #[Value.int IntKind.u64 (f : Int)] 215)) := ((Ext.refl w).drewN q).alloc _
  have hfr : NatV ((w.drewN q).alloc (Obj.cells #[Value.int IntKind.u64 (f : Int)] 215)) (.slice (some ⟨w.heap.size, 0, none⟩) 1 1) f := by
    refine ⟨_, 1, by rw [limbs_one (by omega) hf2]; rfl, by rw [limbs_one (by omega) hf2]; simp, ?_⟩
    rw [limbs_one (by omega) hf2]; exact row_one (w.drewN q) f
  have hfc : ((w.drewN q).alloc (Obj.cells #[Value.int IntKind.u64 (f : Int)] 215)).cell? ⟨w.heap.size, 0, none⟩ = some (.int .u64 (f : Int)) := World.cell?_alloc_new (w := w.drewN q) _ _ _
  generalize (w.drewN q).alloc (Obj.cells #[Value.int IntKind.u64 (f : Int)] 215) = W2 at *
  have X2 := Lib.hid x2
  have HFR := Lib.hid hfr
  have HFC := Lib.hid hfc
  clear x2 hfr hfc HC
  go_cut [9, 10] (MadeTwo W2 W2.heap.size (L + 1) (n * f))
  case first =>
    have hmk := fun W : World => run_make_zeros W ((L : Int) + 1) (L + 1) (by omega) (by omega)
    have hmul := fun (W : World) (x : Ext W2 W) => natMul_at _ _ n f W (HB.out.ext (X2.out.trans x)) (HFR.out.ext x) (by rw [HNM.out.len]; omega) (by unfold nl; rw [limbs_one (by omega) hf2]; simp)
    have HM := Lib.hid hmul
    clear hmul
    have hw1 : IntKind.i64.wrap ((L : Int) + 1) = (L : Int) + 1 := IntWalk.i64_in _ (by omega)
    go_region_with (first | (go_at_call 191; refine (HM.out _ ?_).mono ?_; (first | exact (Ext.refl _).drew | exact ((Ext.refl _).alloc _).drew | exact ((Ext.refl _).drew).alloc _); rintro e w3 ⟨kk, cap, rfl, hv, hx⟩))
    all_goals (try go_wp2_with fail)
    all_goals go_meet
    · exact made_a (by omega) hv hx
    · exact made_b (by omega) (Nat.mul_pos HNP.out (by omega)) hv hx
  case rest =>
    obtain ⟨g, av, nv, cv, rfl, rfl, hnv, hown, hvr, hx, hg⟩ := hcut
    rw [HNM.out.vlen] at hnv
    subst hnv
    have HO := Lib.hid hown
    have HV := Lib.hid hvr
    have HX := Lib.hid hx
    clear hown hvr hx
    go_wp2_with fail
    refine (natMul_at _ _ m f _ (HA.out.ext (X2.out.trans HX.out)) (HFR.out.ext HX.out) (by rw [← HL.out]; omega) (by unfold nl; rw [limbs_one (by omega) hf2]; simp)).mono ?_
    rintro e w3 ⟨kk, cap, rfl, hv, hx⟩
    obtain ⟨au, cu, e1, _, hru⟩ := hv
    simp only [Value.slice.injEq] at e1
    obtain ⟨rfl, e2, rfl⟩ := e1
    have hlu : (limbs (m * f)).length ≤ L + 1 := by
      have h1 := nl_mul m f
      have h2 : nl f ≤ 1 := by unfold nl; rw [limbs_one (by omega) hf2]; simp
      rw [← HL.out] at h1
      unfold nl at h1 h2; omega
    have ho3 := owns_ext HO.out hx
    have HO3 := Lib.hid ho3
    have HX3 := Lib.hid hx
    have HLU := Lib.hid hlu
    have HE2 := Lib.hid e2
    have HRU := Lib.hid hru
    clear ho3 hx hlu e2 hru
    obtain ⟨M, hM⟩ : ∃ M, M = L + 1 - (k + 2) := ⟨_, rfl⟩
    have hM1 : L + 1 = M + (k + 2) := by omega
    have HMM := Lib.hid hM
    have HM1 := Lib.hid hM1
    have hM2 : M ≤ L := by omega
    clear hM hM1
    go_wp2_with (first
      | (with_reducible refine wpList_copy_zeros rfl (.tmp 49) (.tmp 52) rfl W2.heap.size g (L + 1) kk _ ⟨wc.heap.size, 0, none⟩ (limbs (m * f)) rfl rfl HO3.out HE2.out.symm (by omega) HLU.out HRU.out ?_; intro w4 ho4 hg4; have HO4 := Lib.hid ho4; have HG4 := Lib.hid hg4; clear ho4 hg4; have X4 := Lib.hid ((HX.out.trans HX3.out).grown HG4.out (fun k' hk' => by cases hk'; exact hg)); have HV4 := Lib.hid ((HV.out.ext HX3.out).grown HG4.out))
      | (at_make; refine wpList_make_full _ rfl _ _ 105 rfl W2.heap.size 215 i0 (.int .u64 0) 1 Tryz.underlying105 HI.out HZ0.out HZ1.out .i64 .i64 _ _ M rfl rfl (by have := HMM.out; omega) (by have := HMM.out; omega) (by rw [HZ2.out]; omega) (by unfold maxLen; omega) X4.out.size ?_; intro w5 ho5 hg5; rw [made_u64] at ho5; have HO5 := Lib.hid ho5; have X5 : Hid (Ext w4 w5) := (Ext.refl w4).grown hg5 (fun k' hk' => by cases hk'); clear ho5 hg5))
    have hgq : g ≠ w4.heap.size := by have := owns_lt HO4.out; omega
    have hvlen : 0 < (u64s (limbs (n * f))).length := by rw [length_u64s]; have := HNM.out.vlen; unfold nl at this; omega
    have HV5 := Lib.hid (HV4.out.ext X5.out)
    have HQ5 := Lib.hid (HV4.out.new hvlen X5.out)
    have HU5 := Lib.hid (owns_ext HO4.out X5.out)
    have XX5 := Lib.hid (X4.out.trans X5.out)
    generalize w4.heap.size = gq at *
    clear HO HV HO3 HX3 HRU HV4 HO4 HG4 X4 X5 hvlen
    go_loopw [12] (DivRel W2 (m * f) (n * f) (k + 2) M (L + 1) g gq av) (fun i _ => (intOf i + 1).toNat)
    case atStart =>
      have hu5 := HU5.out
      rw [show L + 1 - (limbs (m * f)).length = M + (k + 2) - nl (m * f) by unfold nl; have := HM1.out; omega] at hu5
      exact ⟨M, _, _, Nat.le_refl _, rfl, DivSt.start HNM.out (by rw [← HL.out]; exact HM1.out), hu5, HO5.out, HV5.out, HQ5.out, XX5.out⟩
    case round =>
      obtain ⟨j, u, qs, hj, rfl, hst, hou, hoq, hvu, hvq, hx⟩ := hrel
      have HS := Lib.hid hst
      have HU := Lib.hid hou
      have HQ := Lib.hid hoq
      have HVU := Lib.hid hvu
      have HVQ := Lib.hid hvq
      have HXR := Lib.hid hx
      clear hst hou hoq hvu hvq hx HV5 HQ5 HU5 XX5 HO5
      rcases j with _ | j
      · have hdone := HS.out.done (Nat.mul_pos HNP.out (by omega))
        rw [(div_norm (m := m) (n := n) (show 0 < f by omega)).1, (div_norm (m := m) (n := n) (show 0 < f by omega)).2] at hdone
        have hul : u.length = L + 1 := by rw [HS.out.ulen]; exact HM1.out.symm
        have hrowu := Row.of_owns HU.out
        have hrowq := Row.of_owns HQ.out
        have hfc := HXR.out.cell HFC.out
        have hut : val (u.take (k + 2)) = (m % n) * f := by
          rw [← hdone.2]
          have := val_drop_take (u := u) (j := 0) (k := k + 2) (fun i hi => HS.out.zero i hi)
          simpa using this
        have HUT := Lib.hid hut
        have HDN := Lib.hid hdone
        have HRU := Lib.hid hrowu
        have HRQ := Lib.hid hrowq
        have HUL := Lib.hid hul
        clear hdone hul hrowu hrowq hut
        have hrt : Row wr (some ⟨g, 0, none⟩) (u64s (u.take (k + 2))) := by rw [← u64s_take]; exact HRU.out.take _
        have hltk : (u.take (k + 2)).length = k + 2 := by rw [List.length_take, HUL.out]; have := HM1.out; omega
        obtain ⟨X, hX⟩ : ∃ X, X = Value.slice (some ⟨g, 0, none⟩) (trimTo (u.take (k + 2)) (u.take (k + 2)).length) (L + 1) := ⟨_, rfl⟩
        have hXn : NatV wr X ((m % n) * f) := by
          rw [hX]; exact nat_of_trim (HS.out.ulow.take _) hrt HUT.out (by rw [hltk]; have := HM1.out; omega)
        have htr : ∀ W, Ext wr W → Calls Tryz.prog 181 #[.slice (some ⟨g, 0, none⟩) (k + 2) (L + 1)] W fun e w' => e = .returned X ∧ W = w' := fun W x => by
          rw [hX]; exact trim_len _ _ _ _ W hltk (by omega) (by have := HM1.out; omega) (hrt.ext x)
        have hmn : nl ((m % n) * f) ≤ 10000000000000 := by
          have h1 := nl_mul (m % n) f
          have h2 : nl f ≤ 1 := by unfold nl; rw [limbs_one (by omega) hf2]; simp
          have h3 : nl (m % n) ≤ nl m := nl_mono (Nat.mod_le _ _)
          rw [← HL.out] at h3; omega
        have hsh : ∀ W, Ext wr W → Calls Tryz.prog 243 #[X, .int .u64 f] W (RetNatWord W (m % n) 0) := fun W x => by
          have := natShort_any X ((m % n) * f) f W (hXn.ext x) hmn (by omega) hf2
          rw [Nat.mul_div_cancel _ (by omega), Nat.mul_mod_left] at this
          exact this
        have HTR := Lib.hid htr
        have HSH := Lib.hid hsh
        clear htr hsh hX hrt hltk hXn hmn
        have hM3 : M ≤ 9223372036854775807 := by omega
        have hqz : HQ = HQ := rfl
        clear hqz
        go_wp2_with fail
        go_region_with (first
          | (go_at_call 181; refine (HTR.out _ ?_).mono ?_; (exact (Ext.refl _).drew); rintro e w7 ⟨rfl, rfl⟩)
          | (go_at_call 243; refine (HSH.out _ ?_).mono ?_; (exact (Ext.refl _).drew); rintro e w7 ⟨v7, rfl, hv7, hx7⟩))
        all_goals
          have HV7 := Lib.hid hv7
          have HX7 : Hid (Ext wr w7) := ((Ext.refl wr).drew).trans hx7
          clear hv7 hx7
          go_wp2_with fail
          refine (trim_len _ _ _ qs _ HS.out.qlen hM3 (Nat.le_refl _) (HRQ.out.ext HX7.out)).mono ?_
          rintro e w8 ⟨rfl, rfl⟩
          go_wp2_with fail
          go_ret2
          have hqn := nat_of_trim (cap := M) HS.out.qlow (HRQ.out.ext HX7.out) (n := m / n) HDN.out.1 (by rw [HS.out.qlen]; exact Nat.le_refl _)
          exact ⟨_, _, rfl, hqn, HV7.out, (X2.out.trans HXR.out).trans HX7.out⟩
      · rw [show ((j + 1 : Nat) : Int) - 1 = j by omega]
        have hul : u.length = L + 1 := by rw [HS.out.ulen]; exact HM1.out.symm
        have hbef := HS.out.before (show j < M by omega)
        have hqlt : val ((u.drop j).take (k + 2 + 1)) / (n * f) < 1000000000 := by
          rw [Nat.div_lt_iff_lt_mul (Nat.mul_pos HNP.out (by omega))]; exact hbef
        have hstep := step_core W2.heap.size g (L + 1) j k (L + 1 - j) av cv u (limbs (n * f)) wr HU.out HVU.out hul HS.out.ulow (low_limbs _) HNM.out.vlen (by have := HM1.out; omega) (by omega) (by have := HM1.out; omega) HNM.out.vtop (by rw [val_limbs]; exact hbef)
        rw [val_limbs] at hstep
        obtain ⟨qd, hqd⟩ : ∃ qd, qd = val ((u.drop j).take (k + 2 + 1)) / (n * f) := ⟨_, rfl⟩
        have HQD := Lib.hid hqd
        have HST := Lib.hid hstep
        have hm1 := HM1.out
        have hjj : j + (k + 2) + 1 ≤ L + 1 := by omega
        have hjm : j < M := by omega
        have hcz : L + 1 ≠ j := by omega
        clear hqd hstep hbef hul hm1
        go_wp2_with fail
        rw [show j + (k + 2) + 1 - j = k + 3 by omega]
        refine HST.out.mono ?_
        rintro e w6 ⟨o, rfl, hsd, how, hgr⟩
        rw [← HQD.out]
        have hq6 := owns_grown HQ.out hgr hgq.symm
        have hcq := own_cell hq6 (j := j) (by rw [HS.out.qlen]; omega)
        have hfq := hq6.frozenAt j
        have HQ6 := Lib.hid hq6
        have HU6 := Lib.hid how
        have HGR := Lib.hid hgr
        have HSD := Lib.hid hsd
        clear hq6 how hgr hsd
        go_wp2_with fail
        have hset := own_set j qd HQ6.out (grown_refl w6 (some gq))
        refine ⟨⟨j, o, qs.set j qd, by omega, rfl, ?_, owns_grown HU6.out hset.2 hgq, hset.1, ?_, ?_, ?_⟩, by simp only [intOf]; omega⟩
        · rw [HQD.out]
          exact HS.out.step hjm (Nat.mul_pos HNP.out (by omega)) (by have := lt_pow_nl (n * f); rw [HNM.out.vlen] at this; exact this) HSD.out hqlt
        · refine ⟨?_, HVU.out.2⟩
          exact (RowOff.grown ⟨(HVU.out.grown HGR.out).1, HVQ.out.2⟩ hset.2).1
        · exact RowOff.grown ⟨(HVU.out.grown HGR.out).1, HVQ.out.2⟩ hset.2
        · have x6 := HXR.out.grown HGR.out (fun k' hk' => by cases hk'; exact hg)
          exact x6.grown hset.2 (fun k' hk' => by cases hk'; exact (owns_block HQ.out).2)
theorem natDivide_any (va vb : Value) (m n : Nat) (w : World) (ha : NatV w va m) (hb : NatV w vb n) (sa : nl m ≤ 5000000000000) (sb : nl n ≤ 5000000000000) (hn : 0 < n) :
    Calls Tryz.prog 214 #[va, vb] w (RetNat2 w (m / n) (m % n)) := by
  rcases Nat.lt_or_ge m n with h | h
  · rw [Nat.div_eq_of_lt h, Nat.mod_eq_of_lt h]
    exact divide_less va vb m n w ha hb (by omega) (by omega) h
  · rcases Nat.lt_or_ge n 1000000000 with h2 | h2
    · exact divide_short va vb m n w ha hb (by omega) hn h2 h
    · have h3 : 2 ≤ nl n := by
        rcases Nat.lt_or_ge (nl n) 2 with h4 | h4
        · have h5 := lt_pow_nl n
          have h6 : 1000000000 ^ nl n ≤ 1000000000 ^ 1 := Nat.pow_le_pow_right (by omega) (by omega)
          rw [Nat.pow_one] at h6
          omega
        · exact h4
      exact divide_long va vb m n (nl n - 2) w ha hb sa (by omega) h
end Go.Proofs.YtpdboaedoimahaaGreatDoor
end
section
namespace Go.Proofs.YtpdboaedoimahaaGreatDoor
open Go.RowKit
theorem small_val {n : Nat} (h : nl n ≤ 2) : n = (limbs n).getD 1 0 * 1000000000 + (limbs n).getD 0 0 := by
  have h1 := val_two (limbs n) 0
  rw [List.take_of_length_le (show (limbs n).length ≤ 0 + 2 from h), val_limbs] at h1
  simp only [List.take_zero, val, Nat.pow_zero, Nat.one_mul, Nat.zero_add] at h1
  omega
set_option maxRecDepth 100000 in
set_option maxHeartbeats 400000 in
theorem natSmall_any (va : Value) (n : Nat) (w : World) (ha : NatV w va n) (h : nl n ≤ 2) :
    Calls Tryz.prog 215 #[va] w fun e w' => e = .returned (.int .u64 (n : Int)) ∧ w = w' := by
  have hs := small_val h
  obtain ⟨a, c, rfl, _, hr⟩ := ha
  have hx := at_any a c (limbs n) 1 w (by unfold nl at h; omega) (by omega) hr
  have hy := at_any a c (limbs n) 0 w (by unfold nl at h; omega) (by omega) hr
  rw [show (1 : Int).toNat = 1 by rfl] at hx
  rw [show (0 : Int).toNat = 0 by rfl] at hy
  have b1 := (low_limbs n).getD 1
  have b0 := (low_limbs n).getD 0
  obtain ⟨x, ex⟩ : ∃ x, x = (limbs n).getD 1 0 := ⟨_, rfl⟩
  obtain ⟨y, ey⟩ : ∃ y, y = (limbs n).getD 0 0 := ⟨_, rfl⟩
  rw [← ex] at hx b1 hs
  rw [← ey] at hy b0 hs
  have HX := Lib.hid hx
  have HY := Lib.hid hy
  have HS := Lib.hid hs
  clear hx hy hs ex ey hr
  go_enter Tryz.func215, Tryz.ntmps215
  go_wp2_with fail
  refine HX.out.mono ?_
  rintro e w' ⟨rfl, rfl⟩
  go_wp2_with fail
  refine HY.out.mono ?_
  rintro e w' ⟨rfl, rfl⟩
  go_wp2_with fail
  go_ret
  exact ⟨ret_int (by have := HS.out; omega), rfl⟩
def GcdRel (w : World) (G S : Nat) (gk : Nat) (a b : Value) (wr : World) : Prop :=
  ∃ m n : Nat, NatV wr a m ∧ NatV wr b n ∧ Nat.gcd m n = G ∧ nl m ≤ S ∧ nl n ≤ S ∧ n = gk ∧ Ext w wr
def GcdRel2 (w : World) (G : Nat) (x y : Value) (wr : World) : Prop :=
  ∃ m n : Nat, x = .int .u64 (m : Int) ∧ y = .int .u64 (n : Int) ∧ m < 1000000000000000000 ∧ n < 1000000000000000000 ∧ Nat.gcd m n = G ∧ ∃ q, wr = w.drewN q
theorem lt_of_nl2 {n : Nat} (h : nl n ≤ 2) : n < 1000000000000000000 := by
  have h1 := lt_pow_nl n
  have h2 : 1000000000 ^ nl n ≤ 1000000000 ^ 2 := Nat.pow_le_pow_right (by omega) h
  rw [show (1000000000 : Nat) ^ 2 = 1000000000000000000 by rfl] at h2
  omega
theorem gcd_step (m n : Nat) : Nat.gcd n (m % n) = Nat.gcd m n := by rw [Nat.gcd_comm m n, Nat.gcd_rec n m, Nat.gcd_comm]
theorem row_two (w1 : World) (r s : Nat) : Row (w1.alloc (Obj.cells #[Value.int IntKind.u64 (r : Int), Value.int IntKind.u64 (s : Int)] 215)) (some ⟨w1.heap.size, 0, none⟩) (u64s [r, s]) := by
  intro j hj
  have : j < 2 := by simpa [u64s] using hj
  match j, this with
  | 0, _ => exact ⟨_, _, rfl, by simp [u64s]⟩
  | 1, _ => exact ⟨_, _, rfl, by simp [u64s]⟩
set_option maxRecDepth 100000 in
set_option maxHeartbeats 1600000 in
theorem natGcd_any (va vb : Value) (m n : Nat) (w : World) (ha : NatV w va m) (hb : NatV w vb n) (sa : nl m ≤ 5000000000000) (sb : nl n ≤ 5000000000000) :
    Calls Tryz.prog 182 #[va, vb] w (RetNat w (Nat.gcd m n)) := by
  have HA := Lib.hid ha
  have HB := Lib.hid hb
  clear ha hb
  go_enter Tryz.func182, Tryz.ntmps182
  go_wp2_with fail
  go_loopg [0, 1] n (GcdRel w (Nat.gcd m n) 5000000000000)
  case atStart => exact ⟨m, n, HA.out, HB.out, rfl, sa, sb, rfl, Ext.refl w⟩
  case round =>
    obtain ⟨m', n', hm, hn, hg, s1, s2, rfl, hx⟩ := hrel
    have HM := Lib.hid hm
    have HN := Lib.hid hn
    have HG := Lib.hid hg
    have HX := Lib.hid hx
    obtain ⟨a, ca, rfl, _, ra⟩ := hm
    obtain ⟨b, cb, rfl, _, rb⟩ := hn
    have l1 : (limbs m').length ≤ 5000000000000 := s1
    have l2 : (limbs n').length ≤ 5000000000000 := s2
    clear hg hx ra rb
    by_cases h2 : 2 < (limbs n').length
    · have hn0 : 0 < n' := by
        rcases Nat.eq_zero_or_pos n' with h0 | h0
        · rw [h0, limbs_zero] at h2; simp at h2
        · exact h0
      have hdiv := Lib.hid (natDivide_any _ _ m' n' wr HM.out HN.out s1 s2 hn0)
      go_wp2_with fail
      refine hdiv.out.mono ?_
      rintro e w1 ⟨u, v, rfl, hu, hv, hx1⟩
      have HV := Lib.hid hv
      have HX1 := Lib.hid hx1
      clear hu hv hx1
      go_wp2_with fail
      have hlt := Nat.mod_lt m' hn0
      go_roundg (m' % n')
      case measure => exact hlt
      case rel => exact ⟨n', m' % n', HN.out.ext HX1.out, HV.out, by rw [gcd_step]; exact HG.out, s2, Nat.le_trans (nl_mono (Nat.le_of_lt hlt)) s2, rfl, HX.out.trans HX1.out⟩
    · by_cases h0 : n' = 0
      · have hl0 : (limbs n').length = 0 := by rw [h0, limbs_zero]; rfl
        rw [hl0]
        have hg0 : m' = Nat.gcd m n := by rw [← HG.out, h0, Nat.gcd_zero_right]
        have HG0 := Lib.hid hg0
        clear hg0 hl0 h2 h0
        go_wp2_with fail
        go_ret
        exact ⟨_, rfl, by rw [← HG0.out]; exact HM.out, HX.out⟩
      · have hn0 : 0 < n' := by omega
        have hl0 : 0 < (limbs n').length := List.length_pos_iff.2 (fun e => h0 (limbs_eq_nil.1 e))
        have hl1 : (((limbs n').length : Int) == 0) = false := beq_eq_false_iff_ne.2 (by omega)
        have hn1 : nl n' ≤ 2 := by unfold nl; omega
        by_cases h3 : 2 < (limbs m').length
        case' neg =>
          have hm1 : nl m' ≤ 2 := by unfold nl; omega
          have hb1 := lt_of_nl2 hm1
          have hb2 := lt_of_nl2 hn1
          obtain ⟨x, hx⟩ : ∃ x, x = m' := ⟨_, rfl⟩
          obtain ⟨y, hy⟩ : ∃ y, y = n' := ⟨_, rfl⟩
          have HG2 : Hid (Nat.gcd x y = Nat.gcd m n) := by rw [hx, hy]; exact HG.out
          have hs1 : Hid (Calls Tryz.prog 215 #[.slice a (limbs m').length ca] wr fun e w' => e = .returned (.int .u64 (x : Int)) ∧ wr = w') := by rw [hx]; exact natSmall_any _ m' wr HM.out hm1
          have hs2 : Hid (Calls Tryz.prog 215 #[.slice b (limbs n').length cb] wr fun e w' => e = .returned (.int .u64 (y : Int)) ∧ wr = w') := by rw [hy]; exact natSmall_any _ n' wr HN.out hn1
          rw [← hx] at hb1
          rw [← hy] at hb2
          obtain ⟨W1, rfl⟩ : ∃ W1 : World, W1 = wr := ⟨_, rfl⟩
          have XX : Hid (Ext w W1) := HX.out
          clear hx hy hm1 hn1
          go_wp2_with fail
          refine hs1.out.mono ?_
          rintro e w' ⟨rfl, rfl⟩
          go_wp2_with fail
          refine hs2.out.mono ?_
          rintro e w' ⟨rfl, rfl⟩
          go_wp2_with fail
        case' pos =>
          have hdiv := Lib.hid (natDivide_any _ _ m' n' wr HM.out HN.out s1 s2 hn0)
          go_wp2_with fail
          refine hdiv.out.mono ?_
          rintro e W1 ⟨u, v, rfl, hu, hv, hx1⟩
          have HV := Lib.hid hv
          have HX1 := Lib.hid hx1
          have hlt := Nat.mod_lt m' hn0
          have hb1 := lt_of_nl2 hn1
          have hb2 : m' % n' < 1000000000000000000 := by omega
          obtain ⟨x, hx⟩ : ∃ x, x = n' := ⟨_, rfl⟩
          obtain ⟨y, hy⟩ : ∃ y, y = m' % n' := ⟨_, rfl⟩
          have HG2 : Hid (Nat.gcd x y = Nat.gcd m n) := by rw [hx, hy, gcd_step]; exact HG.out
          have hs1 : Hid (Calls Tryz.prog 215 #[.slice b (limbs n').length cb] W1 fun e w' => e = .returned (.int .u64 (x : Int)) ∧ W1 = w') := by rw [hx]; exact natSmall_any _ n' W1 (HN.out.ext HX1.out) hn1
          have hs2 : Hid (Calls Tryz.prog 215 #[v] W1 fun e w' => e = .returned (.int .u64 (y : Int)) ∧ W1 = w') := by rw [hy]; exact natSmall_any _ (m' % n') W1 HV.out (Nat.le_trans (nl_mono (Nat.le_of_lt hlt)) hn1)
          rw [← hx] at hb1
          rw [← hy] at hb2
          have XX : Hid (Ext w W1) := HX.out.trans HX1.out
          clear hx hy hu hv hx1 hlt hn1
          go_wp2_with fail
          refine hs1.out.mono ?_
          rintro e w' ⟨rfl, rfl⟩
          go_wp2_with fail
          refine hs2.out.mono ?_
          rintro e w' ⟨rfl, rfl⟩
          go_wp2_with fail
        all_goals
          go_loopw [9, 10] (GcdRel2 W1 (Nat.gcd m n)) (fun _ y _ => (intOf y).toNat)
          case atStart => exact ⟨x, y, rfl, rfl, hb1, hb2, HG2.out, 0, rfl⟩
          case round =>
            obtain ⟨p, q, rfl, rfl, hp, hq, hgg, d, rfl⟩ := hrel
            have HGG := Lib.hid hgg
            clear hgg
            by_cases hq0 : q = 0
            · subst hq0
              have hpg : p = Nat.gcd m n := by rw [← HGG.out, Nat.gcd_zero_right]
              have HPG := Lib.hid hpg
              clear hpg
              go_wp2_with fail
              rw [show (p : Int) % 1000000000 = ((p % 1000000000 : Nat) : Int) by omega, show (p : Int) / 1000000000 = ((p / 1000000000 : Nat) : Int) by omega]
              have hrow := row_two (W1.drewN d) (p % 1000000000) (p / 1000000000)
              refine (trim_len _ _ _ [p % 1000000000, p / 1000000000] _ rfl (by simp) (by simp) hrow).mono ?_
              rintro e w' ⟨rfl, rfl⟩
              have hnat := nat_of_trim (cap := 2) (Low.cons (by omega) (Low.cons (by omega) Low.nil)) hrow (n := p) (by simp [val]; omega) (by simp)
              have HNAT := Lib.hid hnat
              clear hnat hrow
              go_wp2_with fail
              go_ret
              refine ⟨_, rfl, ?_, (XX.out.drewN d).alloc _⟩
              rw [← HPG.out]; exact HNAT.out
            · have hq1 : ((q : Int) != 0) = true := by rw [bne_iff_ne]; omega
              have hq2 : ((q : Int) == 0) = false := beq_eq_false_iff_ne.2 (by omega)
              go_wp2_with fail
              go_quiet (fail)
              go_wp2_with fail
              have hlt := Nat.mod_lt p (show 0 < q by omega)
              rw [show (p : Int) % q = ((p % q : Nat) : Int) by simp, World.drewN_drewN]
              exact ⟨⟨q, p % q, rfl, rfl, hq, by omega, by rw [gcd_step]; exact HGG.out, _, rfl⟩, by simp only [intOf]; omega⟩
end Go.Proofs.YtpdboaedoimahaaGreatDoor
end
section
namespace Go.Proofs.YtpdboaedoimahaaGreatDoor
open Go.RowKit
def NumV (w : World) (v : Value) (z : Int) : Prop := ∃ a n c, v = .agg #[.bool (decide (z < 0)), .slice a n c] ∧ NatV w (.slice a n c) z.natAbs
theorem NumV.ext {w w' : World} {v : Value} {z : Int} (h : NumV w v z) (x : Ext w w') : NumV w' v z := by
  obtain ⟨a, n, c, h1, h2⟩ := h; exact ⟨a, n, c, h1, h2.ext x⟩
def RetNum (w : World) (z : Int) (e : Ending) (w' : World) : Prop := ∃ v, e = .returned v ∧ NumV w' v z ∧ Ext w w'
def sgnd (neg : Bool) (n : Nat) : Int := if neg then -(n : Int) else n
theorem sgnd_natAbs (neg : Bool) (n : Nat) : (sgnd neg n).natAbs = n := by unfold sgnd; split <;> omega
theorem sgnd_neg (neg : Bool) (n : Nat) : decide (sgnd neg n < 0) = (neg && decide (0 < n)) := by
  unfold sgnd; cases neg <;> simp <;> omega
theorem sgnd_self (z : Int) : sgnd (decide (z < 0)) z.natAbs = z := by
  unfold sgnd; by_cases h : z < 0 <;> simp [h] <;> omega
theorem num_of {w : World} {s : Value} {n : Nat} {b neg : Bool} (hb : b = (neg && decide (0 < n))) (hs : NatV w s n) : NumV w (.agg #[.bool b, s]) (sgnd neg n) := by
  obtain ⟨a, c, rfl, h2⟩ := id hs
  exact ⟨a, _, c, by rw [sgnd_neg, hb], by rw [sgnd_natAbs]; exact hs⟩
theorem num_of' {w : World} {s : Value} {z : Int} {b : Bool} (hb : b = decide (z < 0)) (hs : NatV w s z.natAbs) : NumV w (.agg #[.bool b, s]) z := by
  obtain ⟨a, c, rfl, h2⟩ := id hs
  exact ⟨a, _, c, by rw [hb], hs⟩
theorem len_pos {n : Nat} : 0 < (limbs n).length ↔ 0 < n := by
  constructor
  · intro h; rcases Nat.eq_zero_or_pos n with h0 | h0
    · rw [h0, limbs_zero] at h; simp at h
    · exact h0
  · intro h; exact List.length_pos_iff.2 (fun e => by have := limbs_eq_nil.1 e; omega)
theorem grown_setCell (w : World) (a : Addr) (v : Value) : w.grownBy (w.setCell a v) (some a.block) :=
  ⟨rfl, rfl, rfl, by simp [World.setCell], fun k _ hk => Below.heap_setCell _ _ _ _ (fun e => hk (by rw [e]))⟩
def NoInts (w : World) (g : Nat) : Prop := ∃ (cs : Array Value) (t : TypeId) (fr : Nat × Nat), w.heap[g]? = some (.cells cs t fr) ∧ ∀ (j : Nat) (k : IntKind) (z : Int), cs[j]? ≠ some (Value.int k z)
theorem NatV.grown {w w' : World} {s : Value} {n g : Nat} (h : NatV w s n) (hg : NoInts w g) (hw : w.grownBy w' (some g)) : NatV w' s n := by
  obtain ⟨a, c, h1, h2, h3⟩ := h
  refine ⟨a, c, h1, h2, fun j hj => ?_⟩
  obtain ⟨b, off, e1, e2⟩ := h3 j hj
  refine ⟨b, off, e1, hw.cell e2 ?_⟩
  simp only [ne_eq, Option.some.injEq]
  intro e
  obtain ⟨cs, t, fr, hb, hno⟩ := hg
  rw [← e] at hb
  rw [cell_of_row _ _ _ _ _ _ hb] at e2
  have hj' : j < (limbs n).length := by simpa using hj
  refine hno _ .u64 ((limbs n).getD j 0 : Nat) (e2.trans ?_)
  simp [u64s, hj']
theorem blk2_set {w : World} {g : Nat} {t : TypeId} {o0 o1 v0 v1 : Value} (h : w.heap[g]? = some (.cells #[o0, o1] t (0, 0))) :
    ((w.setCell ⟨g, 0, none⟩ v0).setCell ⟨g, 1, none⟩ v1).heap[g]? = some (.cells #[v0, v1] t (0, 0)) := by
  rw [heap_setCell_same _ _ _ _ _ _ (heap_setCell_same _ _ _ _ _ _ h)]; rfl
theorem grown2 (w : World) (g : Nat) (v0 v1 : Value) : w.grownBy ((w.setCell ⟨g, 0, none⟩ v0).setCell ⟨g, 1, none⟩ v1) (some g) :=
  grown_trans (grown_setCell _ _ _) (grown_setCell _ _ _)
theorem ext2 {a w : World} {g : Nat} (h : Ext a w) (hg : a.heap.size ≤ g) (v0 v1 : Value) : Ext a ((w.setCell ⟨g, 0, none⟩ v0).setCell ⟨g, 1, none⟩ v1) :=
  (h.setCell (p := ⟨g, 0, none⟩) hg v0).setCell (p := ⟨g, 1, none⟩) hg v1
theorem noInts2 {w : World} {g : Nat} {t : TypeId} {b : Bool} {a : Option Addr} {n c : Nat} (h : w.heap[g]? = some (.cells #[.bool b, .slice a n c] t (0, 0))) : NoInts w g := by
  refine ⟨_, _, _, h, fun j k z e => ?_⟩
  match j with
  | 0 => simp at e
  | 1 => simp at e
  | j + 2 => simp at e
theorem Tryz.size107 : (Tryz.prog.info? 107).map (·.size) = some 2 := by kernel_rfl
theorem ret_num {fn : Func} {p : Tmp} {R : Ending → World → Prop} {a : Act} {w : World} {g : Nat} {v0 v1 : Value} (h : fn.results = #[.cell p 107])
    (hp : a.tmps.getD p undef = .pointer (some ⟨g, 0, none⟩)) (hg : w.heap[g]? = some (.cells #[v0, v1] 107 (0, 0))) (hd : a.defers = []) (hR : R (.returned (.agg #[v0, v1])) w) :
    bodyPost Tryz.prog fn R .ret a w :=
  ⟨hd, _, results_cell_row h a.tmps w g _ _ _ _ hp hg Tryz.underlying107 rfl Tryz.size107, hR⟩
set_option maxRecDepth 100000 in
set_option maxHeartbeats 400000 in
theorem number_any (neg : Bool) (s : Value) (n : Nat) (w : World) (h : NatV w s n) (hn : nl n ≤ 100000000000000) :
    Calls Tryz.prog 180 #[.bool neg, s] w (RetNum w (sgnd neg n)) := by
  have H := Lib.hid h
  obtain ⟨a, c, rfl, _, _⟩ := h
  have hl : (limbs n).length ≤ 100000000000000 := hn
  by_cases hp : 0 < (limbs n).length
  · have hd : decide (0 < ((limbs n).length : Int)) = true := by simp; omega
    have hp' := len_pos.1 hp
    cases neg
    · go_enter Tryz.func180, Tryz.ntmps180
      go_wp2_with fail
      refine bodyPost_ret (v := .agg #[.bool false, .slice a (limbs n).length c]) (by simp [results, Tryz.results180, go_sem]) rfl ⟨_, rfl, num_of rfl (H.out.ext ((Ext.refl w).alloc _)), (Ext.refl w).alloc _⟩
    · go_enter Tryz.func180, Tryz.ntmps180
      go_wp2_with fail
      refine bodyPost_ret (v := .agg #[.bool true, .slice a (limbs n).length c]) (by simp [results, Tryz.results180, go_sem]) rfl ⟨_, rfl, num_of (by simp [hp']) (H.out.ext ((Ext.refl w).alloc _)), (Ext.refl w).alloc _⟩
  · have hd : decide (0 < ((limbs n).length : Int)) = false := by simp only [decide_eq_false_iff_not]; omega
    have hp' : ¬ 0 < n := fun h => hp (len_pos.2 h)
    cases neg
    · go_enter Tryz.func180, Tryz.ntmps180
      go_wp2_with fail
      refine bodyPost_ret (v := .agg #[.bool false, .slice a (limbs n).length c]) (by simp [results, Tryz.results180, go_sem]) rfl ⟨_, rfl, num_of rfl (H.out.ext ((Ext.refl w).alloc _)), (Ext.refl w).alloc _⟩
    · go_enter Tryz.func180, Tryz.ntmps180
      go_wp2_with fail
      refine bodyPost_ret (v := .agg #[.bool false, .slice a (limbs n).length c]) (by simp [results, Tryz.results180, go_sem]) rfl ⟨_, rfl, num_of (by simp [hp']) (H.out.ext ((Ext.refl w).alloc _)), (Ext.refl w).alloc _⟩
set_option maxRecDepth 100000 in
set_option maxHeartbeats 400000 in
theorem numSign_any (v : Value) (z : Int) (w : World) (h : NumV w v z) (hn : nl z.natAbs ≤ 100000000000000) :
    Calls Tryz.prog 184 #[v] w fun e w' => e = .returned (.int .i64 (sgn z)) ∧ Ext w w' := by
  obtain ⟨a, n, c, rfl, hnat⟩ := h
  obtain ⟨a', c', e1, _, _⟩ := hnat
  simp only [Value.slice.injEq] at e1
  obtain ⟨rfl, rfl, rfl⟩ := e1
  have hl : (limbs z.natAbs).length ≤ 100000000000000 := hn
  rcases Int.lt_trichotomy z 0 with h | h | h
  · rw [sgn_neg h]
    have hd : decide (z < 0) = true := by simp [h]
    rw [hd]
    clear hd
    go_enter Tryz.func184, Tryz.ntmps184
    go_wp2_with fail
    go_ret
    exact ⟨rfl, (Ext.refl w).alloc _⟩
  · subst h
    rw [show (limbs (Int.natAbs 0)).length = 0 by simp [limbs_zero]]
    rw [sgn_zero, show decide ((0 : Int) < 0) = false by rfl]
    go_enter Tryz.func184, Tryz.ntmps184
    go_wp2_with fail
    go_ret
    exact ⟨rfl, (Ext.refl w).alloc _⟩
  · rw [sgn_pos h]
    have hd : decide (z < 0) = false := by simp; omega
    rw [hd]
    clear hd
    have hp : 0 < (limbs z.natAbs).length := len_pos.2 (by omega)
    go_enter Tryz.func184, Tryz.ntmps184
    go_wp2_with fail
    go_ret
    exact ⟨rfl, (Ext.refl w).alloc _⟩
set_option maxRecDepth 100000 in
set_option maxHeartbeats 400000 in
theorem numNeg_any (v : Value) (z : Int) (w : World) (h : NumV w v z) (hn : nl z.natAbs ≤ 100000000000000) :
    Calls Tryz.prog 192 #[v] w (RetNum w (-z)) := by
  obtain ⟨a, n, c, rfl, hs⟩ := h
  have hnum := number_any (!decide (z < 0)) (.slice a n c) z.natAbs ((w.alloc (.cells #[.bool (decide (z < 0)), .slice a n c] 107)).alloc (.cells #[.bool false, .slice none 0 0] 107)) (hs.ext (((Ext.refl w).alloc _).alloc _)) hn
  have HN := Lib.hid hnum
  clear hnum
  go_enter Tryz.func192, Tryz.ntmps192
  go_wp2_with fail
  refine HN.out.mono ?_
  rintro e w1 ⟨v1, rfl, ⟨a1, n1, c1, rfl, hs1⟩, hx1⟩
  have HS1 := Lib.hid hs1
  have HX1 := Lib.hid hx1
  have hblk : w1.heap[w.heap.size + 1]? = some (.cells #[.bool false, .slice none 0 0] 107 (0, 0)) := by
    have := Below.block hx1 (w.heap.size + 1) (by simp)
    rw [this]; exact heap_alloc2_new _ _ _
  have hc0 : w1.cell? ⟨w.heap.size + 1, 0, none⟩ = some (.bool false) := by rw [cell_of_row _ _ _ _ _ _ hblk]; rfl
  have hc1 : w1.cell? ⟨w.heap.size + 1, 1, none⟩ = some (.slice none 0 0) := by rw [cell_of_row _ _ _ _ _ _ hblk]; rfl
  have hf0 := frozen_of_row _ _ 0 _ _ hblk
  have hf1 := frozen_of_row _ _ 1 _ _ hblk
  clear hs1 hx1
  have HBL := Lib.hid hblk
  clear hblk
  go_wp2_with fail
  refine ret_num rfl rfl (blk2_set HBL.out) rfl ⟨_, rfl, ?_, ext2 ((((Ext.refl w).alloc _).alloc _).trans HX1.out) (by omega) _ _⟩
  have hz : sgnd (!decide (z < 0)) z.natAbs = -z := by
    unfold sgnd; by_cases h : z < 0 <;> simp [h] <;> omega
  have := HS1.out
  rw [hz] at this ⊢
  exact num_of' rfl (this.grown (noInts2 HBL.out) (grown2 _ _ _ _))
end Go.Proofs.YtpdboaedoimahaaGreatDoor
end
section
namespace Go.Proofs.YtpdboaedoimahaaGreatDoor
open Go.RowKit
theorem box3 (w : World) (A B C : Obj) : Ext w (((w.alloc A).alloc B).alloc C) ∧ (((w.alloc A).alloc B).alloc C).heap[w.heap.size]? = some A ∧
    (((w.alloc A).alloc B).alloc C).heap[w.heap.size + 1]? = some B ∧ (((w.alloc A).alloc B).alloc C).heap[w.heap.size + 1 + 1]? = some C := by
  refine ⟨(((Ext.refl w).alloc _).alloc _).alloc _, ?_, ?_, ?_⟩
  · rw [heap_alloc_old _ _ (by simp; omega)]; exact heap_alloc2_old _ _ _
  · rw [heap_alloc_old _ _ (by simp)]; exact heap_alloc2_new _ _ _
  · have := heap_alloc_new ((w.alloc A).alloc B) C
    simpa using this
theorem Ext.block {w w' : World} (h : Ext w w') {g : Nat} {o : Obj} (hg : w.heap[g]? = some o) : w'.heap[g]? = some o := by
  rw [Below.block h g (lt_of_block hg)]; exact hg
theorem keep2 {w : World} {g b o : Nat} {v0 v1 x : Value} (h : w.cell? ⟨b, o, none⟩ = some x) (hne : b ≠ g) : ((w.setCell ⟨g, 0, none⟩ v0).setCell ⟨g, 1, none⟩ v1).cell? ⟨b, o, none⟩ = some x :=
  (grown2 w g v0 v1).cell h (by simp; exact hne)
theorem cell2_0 {w : World} {g : Nat} {x y : Value} {t : TypeId} (h : w.heap[g]? = some (.cells #[x, y] t (0, 0))) : w.cell? ⟨g, 0, none⟩ = some x := by rw [cell_of_row _ _ _ _ _ _ h]; rfl
theorem cell2_1 {w : World} {g : Nat} {x y : Value} {t : TypeId} (h : w.heap[g]? = some (.cells #[x, y] t (0, 0))) : w.cell? ⟨g, 1, none⟩ = some y := by rw [cell_of_row _ _ _ _ _ _ h]; rfl
theorem sgnd_mul (y z : Int) : sgnd (!(decide (y < 0) == decide (z < 0))) (y.natAbs * z.natAbs) = y * z := by
  unfold sgnd
  have e : ((y.natAbs * z.natAbs : Nat) : Int) = (y.natAbs : Int) * z.natAbs := Int.natCast_mul _ _
  rw [e]
  by_cases hy : y < 0 <;> by_cases hz : z < 0 <;> simp [hy, hz]
  · rw [show (y.natAbs : Int) = -y by omega, show (z.natAbs : Int) = -z by omega, Int.neg_mul_neg]
  · rw [show (y.natAbs : Int) = -y by omega, show (z.natAbs : Int) = z by omega, Int.neg_mul, Int.neg_neg]
  · rw [show (y.natAbs : Int) = y by omega, show (z.natAbs : Int) = -z by omega, Int.mul_neg, Int.neg_neg]
  · rw [show (y.natAbs : Int) = y by omega, show (z.natAbs : Int) = z by omega]
theorem sgnd_add {y z : Int} (hs : decide (y < 0) = decide (z < 0)) : sgnd (decide (y < 0)) (y.natAbs + z.natAbs) = y + z := by
  unfold sgnd
  by_cases hy : y < 0 <;> by_cases hz : z < 0 <;> simp [hy, hz] at hs ⊢ <;> omega
theorem sgnd_sub1 {y z : Int} (hs : decide (y < 0) ≠ decide (z < 0)) (h : z.natAbs ≤ y.natAbs) : sgnd (decide (y < 0)) (y.natAbs - z.natAbs) = y + z := by
  unfold sgnd
  by_cases hy : y < 0 <;> by_cases hz : z < 0 <;> simp [hy, hz] at hs ⊢ <;> omega
theorem sgnd_sub2 {y z : Int} (hs : decide (y < 0) ≠ decide (z < 0)) (h : y.natAbs < z.natAbs) : sgnd (decide (z < 0)) (z.natAbs - y.natAbs) = y + z := by
  unfold sgnd
  by_cases hy : y < 0 <;> by_cases hz : z < 0 <;> simp [hy, hz] at hs ⊢ <;> omega
set_option maxRecDepth 100000 in
set_option maxHeartbeats 1600000 in
theorem numMul_any (u v : Value) (y z : Int) (w : World) (hu : NumV w u y) (hv : NumV w v z) (sy : nl y.natAbs ≤ 5000000000000) (sz : nl z.natAbs ≤ 5000000000000) :
    Calls Tryz.prog 153 #[u, v] w (RetNum w (y * z)) := by
  obtain ⟨a, n, c, rfl, hy⟩ := hu
  obtain ⟨a', n', c', rfl, hz⟩ := hv
  have HY := Lib.hid hy
  have HZ := Lib.hid hz
  clear hy hz
  obtain ⟨p, hp⟩ : ∃ p, p = decide (y < 0) := ⟨_, rfl⟩
  obtain ⟨q, hq⟩ : ∃ q, q = decide (z < 0) := ⟨_, rfl⟩
  rw [← hp, ← hq]
  have HP := Lib.hid hp
  have HQ := Lib.hid hq
  have HEQ : Hid (sgnd (!(p == q)) (y.natAbs * z.natAbs) = y * z) := by rw [hp, hq]; exact sgnd_mul y z
  have HSZ : Hid (nl (y.natAbs * z.natAbs) ≤ 100000000000000) := by have := nl_mul y.natAbs z.natAbs; unfold Hid; omega
  clear hp hq
  go_enter Tryz.func153, Tryz.ntmps153
  go_wp2_with fail
  have hb := box3 w (.cells #[.bool p, .slice a n c] 107) (.cells #[.bool q, .slice a' n' c'] 107) (.cells #[.bool false, .slice none 0 0] 107)
  generalize ((w.alloc (.cells #[.bool p, .slice a n c] 107)).alloc (.cells #[.bool q, .slice a' n' c'] 107)).alloc (.cells #[.bool false, .slice none 0 0] 107) = W at *
  obtain ⟨x0, b0, b1, b2⟩ := hb
  have X0 := Lib.hid x0
  have B2 := Lib.hid b2
  have c0 := cell2_0 b0
  have c1 := cell2_1 b0
  have c2 := cell2_0 b1
  have c3 := cell2_1 b1
  clear x0 b0 b1 b2
  have HM := Lib.hid (fun (W' : World) (x : Ext W W') => natMul_any _ _ _ _ W' (HY.out.ext (X0.out.trans x)) (HZ.out.ext (X0.out.trans x)) (by omega) (by omega))
  go_region_held3 (fun w' => w'.cell? ⟨w.heap.size, 0, none⟩ = some (.bool p) ∧ w'.cell? ⟨w.heap.size, 1, none⟩ = some (.slice a n c) ∧ w'.cell? ⟨w.heap.size + 1, 0, none⟩ = some (.bool q) ∧ w'.cell? ⟨w.heap.size + 1, 1, none⟩ = some (.slice a' n' c')) (first | exact ⟨keep2 k1_0 (by omega), keep2 k1_1 (by omega), keep2 k1_2 (by omega), keep2 k1_3 (by omega)⟩ | go_keep)
    (first
      | (go_at_call 191; refine (HM.out _ (Ext.refl _).drew).mono ?_; rintro e w1 ⟨v1, rfl, hv1, hx0⟩; have k0_0 := hx0.cell (p := ⟨w.heap.size, 0, none⟩) c0; have k0_1 := hx0.cell (p := ⟨w.heap.size, 1, none⟩) c1; have k0_2 := hx0.cell (p := ⟨w.heap.size + 1, 0, none⟩) c2; have k0_3 := hx0.cell (p := ⟨w.heap.size + 1, 1, none⟩) c3; have HV1 := Lib.hid hv1; have HX1 := Lib.hid hx0; have O2 := Lib.hid (HX1.out.block (g := w.heap.size + 1 + 1) B2.out); clear hv1; clear hx0)
      | (go_at_call 180; refine (number_any _ _ _ _ HV1.out HSZ.out).mono ?_; rintro e w2 ⟨v2, rfl, ⟨a2, n2, c2', rfl, hs2⟩, hx1⟩; have k1_0 := hx1.cell (p := ⟨w.heap.size, 0, none⟩) k0_0; have k1_1 := hx1.cell (p := ⟨w.heap.size, 1, none⟩) k0_1; have k1_2 := hx1.cell (p := ⟨w.heap.size + 1, 0, none⟩) k0_2; have k1_3 := hx1.cell (p := ⟨w.heap.size + 1, 1, none⟩) k0_3; have HS2 := Lib.hid hs2; have HX2 := Lib.hid hx1; have BB := Lib.hid (HX2.out.block O2.out); have d0 := cell2_0 BB.out; have d1 := cell2_1 BB.out; have f0 := frozen_of_row _ _ 0 _ _ BB.out; have f1 := frozen_of_row _ _ 1 _ _ BB.out; clear hs2; clear hx1 k0_0 k0_1 k0_2 k0_3))
  go_wp2_with fail
  refine ret_num rfl rfl (blk2_set BB.out) rfl ⟨_, rfl, ?_, ext2 ((X0.out.trans ((Ext.refl _).drew.trans HX1.out)).trans HX2.out) (by omega) _ _⟩
  have hs := HS2.out.grown (noInts2 BB.out) (grown2 _ _ (.bool (decide (sgnd (!(p == q)) (y.natAbs * z.natAbs) < 0))) (.slice a2 n2 c2'))
  rw [show sgnd (!(p == q)) (y.natAbs * z.natAbs) = y * z from HEQ.out] at hs ⊢
  exact num_of' rfl hs
set_option maxRecDepth 100000 in
set_option maxHeartbeats 1600000 in
theorem numAdd_same (u v : Value) (y z : Int) (w : World) (hu : NumV w u y) (hv : NumV w v z) (sy : nl y.natAbs ≤ 5000000000000) (sz : nl z.natAbs ≤ 5000000000000) (hs : decide (y < 0) = decide (z < 0)) :
    Calls Tryz.prog 155 #[u, v] w (RetNum w (y + z)) := by
  obtain ⟨a, n, c, rfl, hy⟩ := hu
  obtain ⟨a', n', c', rfl, hz⟩ := hv
  have HY := Lib.hid hy
  have HZ := Lib.hid hz
  clear hy hz
  obtain ⟨p, hp⟩ : ∃ p, p = decide (y < 0) := ⟨_, rfl⟩
  obtain ⟨q, hq⟩ : ∃ q, q = decide (z < 0) := ⟨_, rfl⟩
  rw [← hp, ← hq]
  have HP := Lib.hid hp
  have HQ := Lib.hid hq
  have HEQ : Hid (sgnd p (y.natAbs + z.natAbs) = y + z) := by rw [hp]; exact sgnd_add hs
  have HSZ : Hid (nl (y.natAbs + z.natAbs) ≤ 100000000000000) := by have := nl_add y.natAbs z.natAbs; unfold Hid; omega
  have hpq : (p == q) = true := by rw [hp, hq, hs]; simp
  clear hp hq
  go_enter Tryz.func155, Tryz.ntmps155
  go_wp2_with fail
  have hb := box3 w (.cells #[.bool p, .slice a n c] 107) (.cells #[.bool q, .slice a' n' c'] 107) (.cells #[.bool false, .slice none 0 0] 107)
  generalize ((w.alloc (.cells #[.bool p, .slice a n c] 107)).alloc (.cells #[.bool q, .slice a' n' c'] 107)).alloc (.cells #[.bool false, .slice none 0 0] 107) = W at *
  obtain ⟨x0, b0, b1, b2⟩ := hb
  have X0 := Lib.hid x0
  have B2 := Lib.hid b2
  have c0 := cell2_0 b0
  have c1 := cell2_1 b0
  have c2 := cell2_0 b1
  have c3 := cell2_1 b1
  clear x0 b0 b1 b2
  have HM := Lib.hid (fun (W' : World) (x : Ext W W') => natAdd_any _ _ _ _ W' (HY.out.ext (X0.out.trans x)) (HZ.out.ext (X0.out.trans x)) (by omega) (by omega))
  go_region_held3 (fun w' => w'.cell? ⟨w.heap.size, 0, none⟩ = some (.bool p) ∧ w'.cell? ⟨w.heap.size, 1, none⟩ = some (.slice a n c) ∧ w'.cell? ⟨w.heap.size + 1, 0, none⟩ = some (.bool q) ∧ w'.cell? ⟨w.heap.size + 1, 1, none⟩ = some (.slice a' n' c')) (first | exact ⟨keep2 k1_0 (by omega), keep2 k1_1 (by omega), keep2 k1_2 (by omega), keep2 k1_3 (by omega)⟩ | go_keep)
    (first
      | (go_at_call 194; refine (HM.out _ (Ext.refl _).drew).mono ?_; rintro e w1 ⟨v1, rfl, hv1, hx0⟩; have k0_0 := hx0.cell (p := ⟨w.heap.size, 0, none⟩) c0; have k0_1 := hx0.cell (p := ⟨w.heap.size, 1, none⟩) c1; have k0_2 := hx0.cell (p := ⟨w.heap.size + 1, 0, none⟩) c2; have k0_3 := hx0.cell (p := ⟨w.heap.size + 1, 1, none⟩) c3; have HV1 := Lib.hid hv1; have HX1 := Lib.hid hx0; have O2 := Lib.hid (HX1.out.block (g := w.heap.size + 1 + 1) B2.out); clear hv1; clear hx0)
      | (go_at_call 180; refine (number_any _ _ _ _ HV1.out HSZ.out).mono ?_; rintro e w2 ⟨v2, rfl, ⟨a2, n2, c2', rfl, hs2⟩, hx1⟩; have k1_0 := hx1.cell (p := ⟨w.heap.size, 0, none⟩) k0_0; have k1_1 := hx1.cell (p := ⟨w.heap.size, 1, none⟩) k0_1; have k1_2 := hx1.cell (p := ⟨w.heap.size + 1, 0, none⟩) k0_2; have k1_3 := hx1.cell (p := ⟨w.heap.size + 1, 1, none⟩) k0_3; have HS2 := Lib.hid hs2; have HX2 := Lib.hid hx1; have BB := Lib.hid (HX2.out.block O2.out); have d0 := cell2_0 BB.out; have d1 := cell2_1 BB.out; have f0 := frozen_of_row _ _ 0 _ _ BB.out; have f1 := frozen_of_row _ _ 1 _ _ BB.out; clear hs2; clear hx1 k0_0 k0_1 k0_2 k0_3))
  go_wp2_with fail
  refine ret_num rfl rfl (blk2_set BB.out) rfl ⟨_, rfl, ?_, ext2 ((X0.out.trans ((Ext.refl _).drew.trans HX1.out)).trans HX2.out) (by omega) _ _⟩
  have hs := HS2.out.grown (noInts2 BB.out) (grown2 _ _ (.bool (decide (sgnd p (y.natAbs + z.natAbs) < 0))) (.slice a2 n2 c2'))
  rw [show sgnd p (y.natAbs + z.natAbs) = y + z from HEQ.out] at hs ⊢
  exact num_of' rfl hs
set_option maxRecDepth 100000 in
set_option maxHeartbeats 1600000 in
theorem numAdd_ge (u v : Value) (y z : Int) (w : World) (hu : NumV w u y) (hv : NumV w v z) (sy : nl y.natAbs ≤ 5000000000000) (sz : nl z.natAbs ≤ 5000000000000) (hs : decide (y < 0) ≠ decide (z < 0)) (hle : z.natAbs ≤ y.natAbs) :
    Calls Tryz.prog 155 #[u, v] w (RetNum w (y + z)) := by
  obtain ⟨a, n, c, rfl, hy⟩ := hu
  obtain ⟨a', n', c', rfl, hz⟩ := hv
  have HY := Lib.hid hy
  have HZ := Lib.hid hz
  clear hy hz
  obtain ⟨p, hp⟩ : ∃ p, p = decide (y < 0) := ⟨_, rfl⟩
  obtain ⟨q, hq⟩ : ∃ q, q = decide (z < 0) := ⟨_, rfl⟩
  rw [← hp, ← hq]
  have HP := Lib.hid hp
  have HQ := Lib.hid hq
  have HEQ : Hid (sgnd p (y.natAbs - z.natAbs) = y + z) := by rw [hp]; exact sgnd_sub1 hs hle
  have HSZ : Hid (nl (y.natAbs - z.natAbs) ≤ 100000000000000) := by have := nl_mono (Nat.sub_le y.natAbs z.natAbs); unfold Hid; omega
  have hpq : (p == q) = false := by rw [hp, hq]; simpa using hs
  have hcmp : Hid (0 ≤ sgn ((y.natAbs : Int) - z.natAbs)) := by unfold Hid; exact cmp_ge hle
  clear hp hq
  go_enter Tryz.func155, Tryz.ntmps155
  go_wp2_with fail
  have hb := box3 w (.cells #[.bool p, .slice a n c] 107) (.cells #[.bool q, .slice a' n' c'] 107) (.cells #[.bool false, .slice none 0 0] 107)
  generalize ((w.alloc (.cells #[.bool p, .slice a n c] 107)).alloc (.cells #[.bool q, .slice a' n' c'] 107)).alloc (.cells #[.bool false, .slice none 0 0] 107) = W0 at *
  refine (natCompare_any _ _ y.natAbs z.natAbs W0 (HY.out.ext hb.1) (HZ.out.ext hb.1) (by omega) (by omega)).mono ?_
  rintro e W ⟨rfl, dd, hW⟩
  have hb0 : Ext W0 W := by rw [hW]; exact (Ext.refl W0).drewN dd
  obtain ⟨x0, b0, b1, b2⟩ := hb
  have X0 := Lib.hid (x0.trans hb0)
  have B2 := Lib.hid (hb0.block b2)
  have c0 := cell2_0 (hb0.block b0)
  have c1 := cell2_1 (hb0.block b0)
  have c2 := cell2_0 (hb0.block b1)
  have c3 := cell2_1 (hb0.block b1)
  obtain ⟨cmp, hcm⟩ : ∃ cmp, cmp = sgn ((y.natAbs : Int) - z.natAbs) := ⟨_, rfl⟩
  rw [← hcm]
  have hcmp2 := hcmp.out
  rw [← hcm] at hcmp2
  clear x0 b0 b1 b2 hW hb0 hcmp hcm
  go_wp2_with fail
  have HM := Lib.hid (fun (W' : World) (x : Ext W W') => natSub_any _ _ _ _ W' (HY.out.ext (X0.out.trans x)) (HZ.out.ext (X0.out.trans x)) (by omega) hle)
  go_region_held3 (fun w' => w'.cell? ⟨w.heap.size, 0, none⟩ = some (.bool p) ∧ w'.cell? ⟨w.heap.size, 1, none⟩ = some (.slice a n c) ∧ w'.cell? ⟨w.heap.size + 1, 0, none⟩ = some (.bool q) ∧ w'.cell? ⟨w.heap.size + 1, 1, none⟩ = some (.slice a' n' c')) (first | exact ⟨keep2 k1_0 (by omega), keep2 k1_1 (by omega), keep2 k1_2 (by omega), keep2 k1_3 (by omega)⟩ | go_keep)
    (first
      | (go_at_call 196; refine (HM.out _ (Ext.refl _).drew).mono ?_; rintro e w1 ⟨v1, rfl, hv1, hx0⟩; have k0_0 := hx0.cell (p := ⟨w.heap.size, 0, none⟩) c0; have k0_1 := hx0.cell (p := ⟨w.heap.size, 1, none⟩) c1; have k0_2 := hx0.cell (p := ⟨w.heap.size + 1, 0, none⟩) c2; have k0_3 := hx0.cell (p := ⟨w.heap.size + 1, 1, none⟩) c3; have HV1 := Lib.hid hv1; have HX1 := Lib.hid hx0; have O2 := Lib.hid (HX1.out.block (g := w.heap.size + 1 + 1) B2.out); clear hv1; clear hx0)
      | (go_at_call 180; refine (number_any _ _ _ _ HV1.out HSZ.out).mono ?_; rintro e w2 ⟨v2, rfl, ⟨a2, n2, c2', rfl, hs2⟩, hx1⟩; have k1_0 := hx1.cell (p := ⟨w.heap.size, 0, none⟩) k0_0; have k1_1 := hx1.cell (p := ⟨w.heap.size, 1, none⟩) k0_1; have k1_2 := hx1.cell (p := ⟨w.heap.size + 1, 0, none⟩) k0_2; have k1_3 := hx1.cell (p := ⟨w.heap.size + 1, 1, none⟩) k0_3; have HS2 := Lib.hid hs2; have HX2 := Lib.hid hx1; have BB := Lib.hid (HX2.out.block O2.out); have d0 := cell2_0 BB.out; have d1 := cell2_1 BB.out; have f0 := frozen_of_row _ _ 0 _ _ BB.out; have f1 := frozen_of_row _ _ 1 _ _ BB.out; clear hs2; clear hx1 k0_0 k0_1 k0_2 k0_3))
  go_wp2_with fail
  refine ret_num rfl rfl (blk2_set BB.out) rfl ⟨_, rfl, ?_, ext2 ((X0.out.trans ((Ext.refl _).drew.trans HX1.out)).trans HX2.out) (by omega) _ _⟩
  have hs := HS2.out.grown (noInts2 BB.out) (grown2 _ _ (.bool (decide (sgnd p (y.natAbs - z.natAbs) < 0))) (.slice a2 n2 c2'))
  rw [show sgnd p (y.natAbs - z.natAbs) = y + z from HEQ.out] at hs ⊢
  exact num_of' rfl hs
set_option maxRecDepth 100000 in
set_option maxHeartbeats 1600000 in
theorem numAdd_lt (u v : Value) (y z : Int) (w : World) (hu : NumV w u y) (hv : NumV w v z) (sy : nl y.natAbs ≤ 5000000000000) (sz : nl z.natAbs ≤ 5000000000000) (hs : decide (y < 0) ≠ decide (z < 0)) (hlt : y.natAbs < z.natAbs) :
    Calls Tryz.prog 155 #[u, v] w (RetNum w (y + z)) := by
  obtain ⟨a, n, c, rfl, hy⟩ := hu
  obtain ⟨a', n', c', rfl, hz⟩ := hv
  have HY := Lib.hid hy
  have HZ := Lib.hid hz
  clear hy hz
  obtain ⟨p, hp⟩ : ∃ p, p = decide (y < 0) := ⟨_, rfl⟩
  obtain ⟨q, hq⟩ : ∃ q, q = decide (z < 0) := ⟨_, rfl⟩
  rw [← hp, ← hq]
  have HP := Lib.hid hp
  have HQ := Lib.hid hq
  have HEQ : Hid (sgnd q (z.natAbs - y.natAbs) = y + z) := by rw [hq]; exact sgnd_sub2 hs hlt
  have HSZ : Hid (nl (z.natAbs - y.natAbs) ≤ 100000000000000) := by have := nl_mono (Nat.sub_le z.natAbs y.natAbs); unfold Hid; omega
  have hpq : (p == q) = false := by rw [hp, hq]; simpa using hs
  have hle : y.natAbs ≤ z.natAbs := by omega
  have hcmp : Hid (sgn ((y.natAbs : Int) - z.natAbs) < 0) := by unfold Hid; rw [sgn_neg (by omega)]; omega
  clear hp hq
  go_enter Tryz.func155, Tryz.ntmps155
  go_wp2_with fail
  have hb := box3 w (.cells #[.bool p, .slice a n c] 107) (.cells #[.bool q, .slice a' n' c'] 107) (.cells #[.bool false, .slice none 0 0] 107)
  generalize ((w.alloc (.cells #[.bool p, .slice a n c] 107)).alloc (.cells #[.bool q, .slice a' n' c'] 107)).alloc (.cells #[.bool false, .slice none 0 0] 107) = W0 at *
  refine (natCompare_any _ _ y.natAbs z.natAbs W0 (HY.out.ext hb.1) (HZ.out.ext hb.1) (by omega) (by omega)).mono ?_
  rintro e W ⟨rfl, dd, hW⟩
  have hb0 : Ext W0 W := by rw [hW]; exact (Ext.refl W0).drewN dd
  obtain ⟨x0, b0, b1, b2⟩ := hb
  have X0 := Lib.hid (x0.trans hb0)
  have B2 := Lib.hid (hb0.block b2)
  have c0 := cell2_0 (hb0.block b0)
  have c1 := cell2_1 (hb0.block b0)
  have c2 := cell2_0 (hb0.block b1)
  have c3 := cell2_1 (hb0.block b1)
  obtain ⟨cmp, hcm⟩ : ∃ cmp, cmp = sgn ((y.natAbs : Int) - z.natAbs) := ⟨_, rfl⟩
  rw [← hcm]
  have hcmp2 := hcmp.out
  rw [← hcm] at hcmp2
  clear x0 b0 b1 b2 hW hb0 hcmp hcm
  go_wp2_with fail
  have HM := Lib.hid (fun (W' : World) (x : Ext W W') => natSub_any _ _ _ _ W' (HZ.out.ext (X0.out.trans x)) (HY.out.ext (X0.out.trans x)) (by omega) hle)
  go_region_held3 (fun w' => w'.cell? ⟨w.heap.size, 0, none⟩ = some (.bool p) ∧ w'.cell? ⟨w.heap.size, 1, none⟩ = some (.slice a n c) ∧ w'.cell? ⟨w.heap.size + 1, 0, none⟩ = some (.bool q) ∧ w'.cell? ⟨w.heap.size + 1, 1, none⟩ = some (.slice a' n' c')) (first | exact ⟨keep2 k1_0 (by omega), keep2 k1_1 (by omega), keep2 k1_2 (by omega), keep2 k1_3 (by omega)⟩ | go_keep)
    (first
      | (go_at_call 196; refine (HM.out _ (Ext.refl _).drew).mono ?_; rintro e w1 ⟨v1, rfl, hv1, hx0⟩; have k0_0 := hx0.cell (p := ⟨w.heap.size, 0, none⟩) c0; have k0_1 := hx0.cell (p := ⟨w.heap.size, 1, none⟩) c1; have k0_2 := hx0.cell (p := ⟨w.heap.size + 1, 0, none⟩) c2; have k0_3 := hx0.cell (p := ⟨w.heap.size + 1, 1, none⟩) c3; have HV1 := Lib.hid hv1; have HX1 := Lib.hid hx0; have O2 := Lib.hid (HX1.out.block (g := w.heap.size + 1 + 1) B2.out); clear hv1; clear hx0)
      | (go_at_call 180; refine (number_any _ _ _ _ HV1.out HSZ.out).mono ?_; rintro e w2 ⟨v2, rfl, ⟨a2, n2, c2', rfl, hs2⟩, hx1⟩; have k1_0 := hx1.cell (p := ⟨w.heap.size, 0, none⟩) k0_0; have k1_1 := hx1.cell (p := ⟨w.heap.size, 1, none⟩) k0_1; have k1_2 := hx1.cell (p := ⟨w.heap.size + 1, 0, none⟩) k0_2; have k1_3 := hx1.cell (p := ⟨w.heap.size + 1, 1, none⟩) k0_3; have HS2 := Lib.hid hs2; have HX2 := Lib.hid hx1; have BB := Lib.hid (HX2.out.block O2.out); have d0 := cell2_0 BB.out; have d1 := cell2_1 BB.out; have f0 := frozen_of_row _ _ 0 _ _ BB.out; have f1 := frozen_of_row _ _ 1 _ _ BB.out; clear hs2; clear hx1 k0_0 k0_1 k0_2 k0_3))
  go_wp2_with fail
  refine ret_num rfl rfl (blk2_set BB.out) rfl ⟨_, rfl, ?_, ext2 ((X0.out.trans ((Ext.refl _).drew.trans HX1.out)).trans HX2.out) (by omega) _ _⟩
  have hs := HS2.out.grown (noInts2 BB.out) (grown2 _ _ (.bool (decide (sgnd q (z.natAbs - y.natAbs) < 0))) (.slice a2 n2 c2'))
  rw [show sgnd q (z.natAbs - y.natAbs) = y + z from HEQ.out] at hs ⊢
  exact num_of' rfl hs
theorem numAdd_any (u v : Value) (y z : Int) (w : World) (hu : NumV w u y) (hv : NumV w v z) (sy : nl y.natAbs ≤ 5000000000000) (sz : nl z.natAbs ≤ 5000000000000) :
    Calls Tryz.prog 155 #[u, v] w (RetNum w (y + z)) := by
  by_cases hs : decide (y < 0) = decide (z < 0)
  · exact numAdd_same u v y z w hu hv sy sz hs
  · rcases Nat.lt_or_ge y.natAbs z.natAbs with h | h
    · exact numAdd_lt u v y z w hu hv sy sz hs h
    · exact numAdd_ge u v y z w hu hv sy sz hs h
end Go.Proofs.YtpdboaedoimahaaGreatDoor
end
section
namespace Go.Proofs.YtpdboaedoimahaaGreatDoor
open Go.RowKit
set_option maxRecDepth 100000 in
set_option maxHeartbeats 1600000 in
theorem numSub_any (u v : Value) (y z : Int) (w : World) (hu : NumV w u y) (hv : NumV w v z) (sy : nl y.natAbs ≤ 5000000000000) (sz : nl z.natAbs ≤ 5000000000000) :
    Calls Tryz.prog 183 #[u, v] w (RetNum w (y - z)) := by
  have HU := Lib.hid hu
  have HV := Lib.hid hv
  obtain ⟨a, n, c, rfl, hy⟩ := hu
  obtain ⟨a', n', c', rfl, hz⟩ := hv
  clear hy hz
  obtain ⟨p, hp⟩ : ∃ p, p = decide (y < 0) := ⟨_, rfl⟩
  obtain ⟨q, hq⟩ : ∃ q, q = decide (z < 0) := ⟨_, rfl⟩
  rw [← hp, ← hq]
  rw [← hp] at HU
  rw [← hq] at HV
  clear hp hq
  go_enter Tryz.func183, Tryz.ntmps183
  go_wp2_with fail
  have hb := box3 w (.cells #[.bool p, .slice a n c] 107) (.cells #[.bool q, .slice a' n' c'] 107) (.cells #[.bool false, .slice none 0 0] 107)
  generalize ((w.alloc (.cells #[.bool p, .slice a n c] 107)).alloc (.cells #[.bool q, .slice a' n' c'] 107)).alloc (.cells #[.bool false, .slice none 0 0] 107) = W at *
  obtain ⟨x0, b0, b1, b2⟩ := hb
  have X0 := Lib.hid x0
  have B2 := Lib.hid b2
  have c0 := cell2_0 b0
  have c1 := cell2_1 b0
  have c2 := cell2_0 b1
  have c3 := cell2_1 b1
  clear x0 b0 b1 b2
  have HM := Lib.hid (fun (W' : World) (x : Ext W W') => numNeg_any _ z W' (HV.out.ext (X0.out.trans x)) (by omega))
  go_region_held3 (fun w' => w'.cell? ⟨w.heap.size, 0, none⟩ = some (.bool p) ∧ w'.cell? ⟨w.heap.size, 1, none⟩ = some (.slice a n c) ∧ w'.cell? ⟨w.heap.size + 1, 0, none⟩ = some (.bool q) ∧ w'.cell? ⟨w.heap.size + 1, 1, none⟩ = some (.slice a' n' c')) (first | exact ⟨keep2 k1_0 (by omega), keep2 k1_1 (by omega), keep2 k1_2 (by omega), keep2 k1_3 (by omega)⟩ | go_keep)
    (first
      | (go_at_call 192; refine (HM.out _ (Ext.refl _).drew).mono ?_; rintro e w1 ⟨v1, rfl, hv1, hx0⟩; have k0_0 := hx0.cell (p := ⟨w.heap.size, 0, none⟩) c0; have k0_1 := hx0.cell (p := ⟨w.heap.size, 1, none⟩) c1; have k0_2 := hx0.cell (p := ⟨w.heap.size + 1, 0, none⟩) c2; have k0_3 := hx0.cell (p := ⟨w.heap.size + 1, 1, none⟩) c3; have HV1 := Lib.hid hv1; have HX1 := Lib.hid hx0; have O2 := Lib.hid (HX1.out.block (g := w.heap.size + 1 + 1) B2.out); clear hv1; clear hx0)
      | (go_at_call 155; refine (numAdd_any _ _ y (-z) _ (HU.out.ext (X0.out.trans ((Ext.refl _).drew.trans HX1.out))) HV1.out sy (by rw [Int.natAbs_neg]; exact sz)).mono ?_; rintro e w2 ⟨v2, rfl, ⟨a2, n2, c2', rfl, hs2⟩, hx1⟩; have k1_0 := hx1.cell (p := ⟨w.heap.size, 0, none⟩) k0_0; have k1_1 := hx1.cell (p := ⟨w.heap.size, 1, none⟩) k0_1; have k1_2 := hx1.cell (p := ⟨w.heap.size + 1, 0, none⟩) k0_2; have k1_3 := hx1.cell (p := ⟨w.heap.size + 1, 1, none⟩) k0_3; have HS2 := Lib.hid hs2; have HX2 := Lib.hid hx1; have BB := Lib.hid (HX2.out.block O2.out); have d0 := cell2_0 BB.out; have d1 := cell2_1 BB.out; have f0 := frozen_of_row _ _ 0 _ _ BB.out; have f1 := frozen_of_row _ _ 1 _ _ BB.out; clear hs2; clear hx1 k0_0 k0_1 k0_2 k0_3))
  go_wp2_with fail
  refine ret_num rfl rfl (blk2_set BB.out) rfl ⟨_, rfl, num_of' rfl (HS2.out.grown (noInts2 BB.out) (grown2 _ _ _ _)), ext2 ((X0.out.trans ((Ext.refl _).drew.trans HX1.out)).trans HX2.out) (by omega) _ _⟩
set_option maxRecDepth 100000 in
set_option maxHeartbeats 1600000 in
theorem numCompare_any (u v : Value) (y z : Int) (w : World) (hu : NumV w u y) (hv : NumV w v z) (sy : nl y.natAbs ≤ 5000000000000) (sz : nl z.natAbs ≤ 5000000000000) :
    Calls Tryz.prog 129 #[u, v] w fun e w' => e = .returned (.int .i64 (sgn (y - z))) ∧ Ext w w' := by
  have HU := Lib.hid hu
  have HV := Lib.hid hv
  obtain ⟨a, n, c, rfl, hy⟩ := hu
  obtain ⟨a', n', c', rfl, hz⟩ := hv
  clear hy hz
  obtain ⟨p, hp⟩ : ∃ p, p = decide (y < 0) := ⟨_, rfl⟩
  obtain ⟨q, hq⟩ : ∃ q, q = decide (z < 0) := ⟨_, rfl⟩
  rw [← hp, ← hq]
  rw [← hp] at HU
  rw [← hq] at HV
  clear hp hq
  have HS : Hid (nl (y - z).natAbs ≤ 100000000000000) := by
    have h1 := nl_add y.natAbs z.natAbs
    have h2 : nl (y - z).natAbs ≤ nl (y.natAbs + z.natAbs) := nl_mono (by omega)
    unfold Hid; omega
  go_enter Tryz.func129, Tryz.ntmps129
  go_wp2_with fail
  have x0 : Ext w ((w.alloc (.cells #[.bool p, .slice a n c] 107)).alloc (.cells #[.bool q, .slice a' n' c'] 107)) := ((Ext.refl w).alloc _).alloc _
  have X0 := Lib.hid x0
  refine (numSub_any _ _ y z _ (HU.out.ext x0) (HV.out.ext x0) sy sz).mono ?_
  rintro e w1 ⟨v1, rfl, hv1, hx1⟩
  have HV1 := Lib.hid hv1
  have HX1 := Lib.hid hx1
  clear x0 hv1 hx1
  go_wp2_with fail
  refine (numSign_any _ _ _ HV1.out HS.out).mono ?_
  rintro e w2 ⟨rfl, hx2⟩
  have HX2 := Lib.hid hx2
  clear hx2
  go_wp2_with fail
  go_ret
  exact ⟨rfl, (X0.out.trans HX1.out).trans HX2.out⟩
set_option maxRecDepth 100000 in
set_option maxHeartbeats 1600000 in
theorem numGcd_any (u v : Value) (y z : Int) (w : World) (hu : NumV w u y) (hv : NumV w v z) (sy : nl y.natAbs ≤ 5000000000000) (sz : nl z.natAbs ≤ 5000000000000) :
    Calls Tryz.prog 128 #[u, v] w (RetNum w (Nat.gcd y.natAbs z.natAbs)) := by
  obtain ⟨a, n, c, rfl, hy⟩ := hu
  obtain ⟨a', n', c', rfl, hz⟩ := hv
  have HY := Lib.hid hy
  have HZ := Lib.hid hz
  clear hy hz
  obtain ⟨p, hp⟩ : ∃ p, p = decide (y < 0) := ⟨_, rfl⟩
  obtain ⟨q, hq⟩ : ∃ q, q = decide (z < 0) := ⟨_, rfl⟩
  rw [← hp, ← hq]
  clear hp hq
  have HSZ : Hid (nl (Nat.gcd y.natAbs z.natAbs) ≤ 100000000000000) := by
    unfold Hid
    rcases Nat.eq_zero_or_pos y.natAbs with h0 | h0
    · rw [h0, Nat.gcd_zero_left]; omega
    · have := nl_mono (Nat.gcd_le_left z.natAbs h0); omega
  go_enter Tryz.func128, Tryz.ntmps128
  go_wp2_with fail
  have hb := box3 w (.cells #[.bool p, .slice a n c] 107) (.cells #[.bool q, .slice a' n' c'] 107) (.cells #[.bool false, .slice none 0 0] 107)
  generalize ((w.alloc (.cells #[.bool p, .slice a n c] 107)).alloc (.cells #[.bool q, .slice a' n' c'] 107)).alloc (.cells #[.bool false, .slice none 0 0] 107) = W at *
  obtain ⟨x0, b0, b1, b2⟩ := hb
  have X0 := Lib.hid x0
  have B2 := Lib.hid b2
  have c0 := cell2_0 b0
  have c1 := cell2_1 b0
  have c2 := cell2_0 b1
  have c3 := cell2_1 b1
  clear x0 b0 b1 b2
  refine (natGcd_any _ _ _ _ W (HY.out.ext X0.out) (HZ.out.ext X0.out) (by omega) (by omega)).mono ?_
  rintro e w1 ⟨v1, rfl, hv1, hx1⟩
  have HV1 := Lib.hid hv1
  have HX1 := Lib.hid hx1
  have O2 := Lib.hid (hx1.block B2.out)
  clear hv1 hx1
  go_wp2_with fail
  refine (number_any _ _ _ _ HV1.out HSZ.out).mono ?_
  rintro e w2 ⟨v2, rfl, ⟨a2, n2, c2', rfl, hs2⟩, hx1⟩
  have HX2 := Lib.hid hx1
  have HS2 := Lib.hid hs2
  have BB := Lib.hid (HX2.out.block O2.out)
  have d0 := cell2_0 BB.out
  have d1 := cell2_1 BB.out
  have f0 := frozen_of_row _ _ 0 _ _ BB.out
  have f1 := frozen_of_row _ _ 1 _ _ BB.out
  clear hs2 hx1
  go_wp2_with fail
  refine ret_num rfl rfl (blk2_set BB.out) rfl ⟨_, rfl, ?_, ext2 ((X0.out.trans HX1.out).trans HX2.out) (by omega) _ _⟩
  exact num_of' rfl (HS2.out.grown (noInts2 BB.out) (grown2 _ _ _ _))
end Go.Proofs.YtpdboaedoimahaaGreatDoor
end
section
namespace Go.Proofs.YtpdboaedoimahaaGreatDoor
open Go.RowKit
def RetNum2 (w : World) (y z : Int) (e : Ending) (w' : World) : Prop := ∃ u v, e = .returned (.tuple #[u, v]) ∧ NumV w' u y ∧ NumV w' v z ∧ Ext w w'
theorem box4 (w : World) (A B C D : Obj) : Ext w ((((w.alloc A).alloc B).alloc C).alloc D) ∧ ((((w.alloc A).alloc B).alloc C).alloc D).heap[w.heap.size]? = some A ∧
    ((((w.alloc A).alloc B).alloc C).alloc D).heap[w.heap.size + 1]? = some B ∧ ((((w.alloc A).alloc B).alloc C).alloc D).heap[w.heap.size + 1 + 1]? = some C ∧
    ((((w.alloc A).alloc B).alloc C).alloc D).heap[w.heap.size + 1 + 1 + 1]? = some D := by
  obtain ⟨h1, h2, h3, h4⟩ := box3 w A B C
  have x : Ext (((w.alloc A).alloc B).alloc C) ((((w.alloc A).alloc B).alloc C).alloc D) := (Ext.refl _).alloc _
  refine ⟨h1.trans x, x.block h2, x.block h3, x.block h4, ?_⟩
  have := heap_alloc_new (((w.alloc A).alloc B).alloc C) D
  simpa using this
theorem ret_num2 {fn : Func} {p p' : Tmp} {R : Ending → World → Prop} {a : Act} {w : World} {g g' : Nat} {v0 v1 u0 u1 : Value} (h : fn.results = #[.cell p 107, .cell p' 107])
    (hp : a.tmps.getD p undef = .pointer (some ⟨g, 0, none⟩)) (hg : w.heap[g]? = some (.cells #[v0, v1] 107 (0, 0)))
    (hp' : a.tmps.getD p' undef = .pointer (some ⟨g', 0, none⟩)) (hg' : w.heap[g']? = some (.cells #[u0, u1] 107 (0, 0)))
    (hd : a.defers = []) (hR : R (.returned (.tuple #[.agg #[v0, v1], .agg #[u0, u1]])) w) :
    bodyPost Tryz.prog fn R .ret a w := by
  refine ⟨hd, _, ?_, hR⟩
  have e1 := run_loadVar_row (P := Tryz.prog) w g _ _ _ _ _ hg Tryz.underlying107 rfl Tryz.size107
  have e2 := run_loadVar_row (P := Tryz.prog) w g' _ _ _ _ _ hg' Tryz.underlying107 rfl Tryz.size107
  have q1 : a.tmps[p]?.getD undef = .pointer (some ⟨g, 0, none⟩) := by simpa using hp
  have q2 : a.tmps[p']?.getD undef = .pointer (some ⟨g', 0, none⟩) := by simpa using hp'
  simp [results, h, q1, q2, asAddr, e1, e2]
theorem blk4 {w : World} {g g' : Nat} {t : TypeId} {o0 o1 o2 o3 v0 v1 v2 v3 : Value} (h : w.heap[g]? = some (.cells #[o0, o1] t (0, 0))) (h' : w.heap[g']? = some (.cells #[o2, o3] t (0, 0))) (hne : g ≠ g') :
    ((((w.setCell ⟨g, 0, none⟩ v0).setCell ⟨g, 1, none⟩ v1).setCell ⟨g', 0, none⟩ v2).setCell ⟨g', 1, none⟩ v3).heap[g]? = some (.cells #[v0, v1] t (0, 0)) ∧
    ((((w.setCell ⟨g, 0, none⟩ v0).setCell ⟨g, 1, none⟩ v1).setCell ⟨g', 0, none⟩ v2).setCell ⟨g', 1, none⟩ v3).heap[g']? = some (.cells #[v2, v3] t (0, 0)) := by
  constructor
  · rw [(grown2 _ g' v2 v3).block g (by have := lt_of_block h; simpa [World.setCell] using this) (by simp [hne])]
    exact blk2_set h
  · refine blk2_set (o0 := o2) (o1 := o3) ?_
    rw [(grown2 w g v0 v1).block g' (lt_of_block h') (by simp; exact fun e => hne e.symm)]
    exact h'
theorem ediv_eq {y z q r : Int} (h : y = z * q + r) (h0 : 0 ≤ r) (h1 : r < z.natAbs) : y / z = q ∧ y % z = r := by
  have hz : z ≠ 0 := by intro e; subst e; simp at h1; omega
  have e1 : y % z = r := by
    rw [h, Int.add_comm, Int.add_mul_emod_self_left]
    rcases Int.lt_or_gt_of_ne hz with hn | hn
    · rw [← Int.emod_neg]; exact Int.emod_eq_of_lt h0 (by omega)
    · exact Int.emod_eq_of_lt h0 (by omega)
  refine ⟨?_, e1⟩
  have := Int.mul_ediv_add_emod y z
  rw [e1, h] at this
  have e2 : z * ((z * q + r) / z) = z * q := by omega
  rw [h]
  exact Int.eq_of_mul_eq_mul_left hz e2
theorem div_nonneg_eq {y z : Int} (hy : ¬ y < 0) (hz : z ≠ 0) : sgnd (!(decide (y < 0) == decide (z < 0))) (y.natAbs / z.natAbs) = y / z ∧ sgnd false (y.natAbs % z.natAbs) = y % z := by
  have hd := Nat.div_add_mod y.natAbs z.natAbs
  have hm := Nat.mod_lt y.natAbs (show 0 < z.natAbs by omega)
  generalize y.natAbs / z.natAbs = q at *
  generalize y.natAbs % z.natAbs = r at *
  have hd' : (z.natAbs : Int) * q + r = y.natAbs := by rw [← hd]; simp
  have := ediv_eq (y := y) (z := z) (q := sgnd (!(decide (y < 0) == decide (z < 0))) q) (r := (r : Int)) (by
    unfold sgnd
    by_cases h : z < 0
    · rw [show (!(decide (y < 0) == decide (z < 0))) = true by simp [hy, h], if_pos rfl, Int.mul_neg]
      rw [show (z.natAbs : Int) = -z by omega, Int.neg_mul] at hd'
      omega
    · rw [show (!(decide (y < 0) == decide (z < 0))) = false by simp [hy, h], if_neg (by simp)]
      rw [show (z.natAbs : Int) = z by omega] at hd'
      omega) (by omega) (by omega)
  exact ⟨this.1.symm, by rw [this.2]; rfl⟩
theorem div_neg_exact {y z : Int} (hy : y < 0) (hz : z ≠ 0) (hr : y.natAbs % z.natAbs = 0) : sgnd (!(decide (y < 0) == decide (z < 0))) (y.natAbs / z.natAbs) = y / z ∧ sgnd false (y.natAbs % z.natAbs) = y % z := by
  have hd := Nat.div_add_mod y.natAbs z.natAbs
  rw [hr] at hd ⊢
  generalize y.natAbs / z.natAbs = q at *
  have hd' : (z.natAbs : Int) * q = y.natAbs := by rw [← hd]; simp
  have := ediv_eq (y := y) (z := z) (q := sgnd (!(decide (y < 0) == decide (z < 0))) q) (r := 0) (by
    unfold sgnd
    by_cases h : z < 0
    · rw [show (!(decide (y < 0) == decide (z < 0))) = false by simp [hy, h], if_neg (by simp)]
      rw [show (z.natAbs : Int) = -z by omega, Int.neg_mul] at hd'
      omega
    · rw [show (!(decide (y < 0) == decide (z < 0))) = true by simp [hy, h], if_pos rfl, Int.mul_neg]
      rw [show (z.natAbs : Int) = z by omega] at hd'
      omega) (by omega) (by omega)
  exact ⟨this.1.symm, by rw [this.2]; rfl⟩
theorem div_neg_rest {y z : Int} (hy : y < 0) (hz : z ≠ 0) (hr : 0 < y.natAbs % z.natAbs) : sgnd (!(decide (y < 0) == decide (z < 0))) (y.natAbs / z.natAbs + 1) = y / z ∧ sgnd false (z.natAbs - y.natAbs % z.natAbs) = y % z := by
  have hd := Nat.div_add_mod y.natAbs z.natAbs
  have hm := Nat.mod_lt y.natAbs (show 0 < z.natAbs by omega)
  generalize y.natAbs / z.natAbs = q at *
  generalize y.natAbs % z.natAbs = r at *
  have hd' : (z.natAbs : Int) * q + r = y.natAbs := by rw [← hd]; simp
  have := ediv_eq (y := y) (z := z) (q := sgnd (!(decide (y < 0) == decide (z < 0))) (q + 1)) (r := ((z.natAbs - r : Nat) : Int)) (by
    unfold sgnd
    by_cases h : z < 0
    · rw [show (!(decide (y < 0) == decide (z < 0))) = false by simp [hy, h], if_neg (by simp)]
      rw [show (z.natAbs : Int) = -z by omega, Int.neg_mul] at hd'
      rw [Int.natCast_add, Int.mul_add]
      omega
    · rw [show (!(decide (y < 0) == decide (z < 0))) = true by simp [hy, h], if_pos rfl]
      rw [show (z.natAbs : Int) = z by omega] at hd'
      rw [Int.mul_neg, Int.natCast_add, Int.mul_add]
      omega) (by omega) (by omega)
  exact ⟨this.1.symm, by rw [this.2]; rfl⟩
set_option maxRecDepth 100000 in
set_option maxHeartbeats 1600000 in
theorem numDiv_pos (u v : Value) (y z : Int) (w : World) (hu : NumV w u y) (hv : NumV w v z) (sy : nl y.natAbs ≤ 4000000000000) (sz : nl z.natAbs ≤ 4000000000000) (hz : z ≠ 0) (h1 : ¬ y < 0) :
    Calls Tryz.prog 193 #[u, v] w (RetNum2 w (y / z) (y % z)) := by
  have hz0 : 0 < z.natAbs := by omega
  have HEQ := Lib.hid (div_nonneg_eq h1 hz)
  obtain ⟨a, n, c, rfl, hy⟩ := hu
  obtain ⟨a', n', c', rfl, hz⟩ := hv
  have HY := Lib.hid hy
  have HZ := Lib.hid hz
  clear hy hz
  have hp : false = decide (y < 0) := by simpa using h1
  obtain ⟨q, hq⟩ : ∃ q, q = decide (z < 0) := ⟨_, rfl⟩
  rw [← hp, ← hq]
  rw [← hp, ← hq, show (!(false == q)) = q by cases q <;> rfl] at HEQ
  have HSQ : Hid (nl (y.natAbs / z.natAbs) ≤ 100000000000000) := by have := nl_mono (Nat.div_le_self y.natAbs z.natAbs); unfold Hid; omega
  have HSR : Hid (nl (y.natAbs % z.natAbs) ≤ 100000000000000) := by have := nl_mono (Nat.le_of_lt (Nat.mod_lt y.natAbs hz0)); unfold Hid; omega
  clear hp hq
  go_enter Tryz.func193, Tryz.ntmps193
  go_wp2_with fail
  have hb := box4 w (.cells #[.bool false, .slice a n c] 107) (.cells #[.bool q, .slice a' n' c'] 107) (.cells #[.bool false, .slice none 0 0] 107) (.cells #[.bool false, .slice none 0 0] 107)
  generalize (((w.alloc (.cells #[.bool false, .slice a n c] 107)).alloc (.cells #[.bool q, .slice a' n' c'] 107)).alloc (.cells #[.bool false, .slice none 0 0] 107)).alloc (.cells #[.bool false, .slice none 0 0] 107) = W0 at *
  refine (natDivide_any _ _ y.natAbs z.natAbs W0 (HY.out.ext hb.1) (HZ.out.ext hb.1) (by omega) (by omega) hz0).mono ?_
  rintro e W ⟨qv, rv, rfl, hqv, hrv, hx⟩
  obtain ⟨x0, b0, b1, b2, b3⟩ := hb
  have HQV := Lib.hid hqv
  have HRV := Lib.hid hrv
  obtain ⟨ar, cr, rfl, _, _⟩ := hrv
  have X0 := Lib.hid (x0.trans hx)
  have B0 := Lib.hid (hx.block b0)
  have B1 := Lib.hid (hx.block b1)
  have B2 := Lib.hid (hx.block b2)
  have B3 := Lib.hid (hx.block b3)
  have c0 := cell2_0 (hx.block b0)
  have c1 := cell2_1 (hx.block b1)
  have hrl : (limbs (y.natAbs % z.natAbs)).length ≤ 5000000000000 := by
    have := nl_mono (Nat.le_of_lt (Nat.mod_lt y.natAbs hz0)); unfold nl at this sz; omega
  clear x0 b0 b1 b2 b3 hqv hx
  have e0 := cell2_0 (B0.out)
  have e1 := cell2_0 (B1.out)
  go_wp2_with fail
  refine (number_any _ _ (y.natAbs / z.natAbs) _ HQV.out HSQ.out).mono ?_
  rintro e w2 ⟨v2, rfl, ⟨a2, n2, c2', rfl, hs2⟩, hx2⟩
  have HX2 := Lib.hid hx2
  have HS2 := Lib.hid hs2
  clear hs2 hx2
  go_wp2_with fail
  refine (number_any _ _ (y.natAbs % z.natAbs) _ (HRV.out.ext HX2.out) HSR.out).mono ?_
  rintro e w3 ⟨v3, rfl, ⟨a3, n3, c3', rfl, hs3⟩, hx3⟩
  have HX3 := Lib.hid hx3
  have HS3 := Lib.hid hs3
  have C2 := Lib.hid ((HX2.out.trans HX3.out).block B2.out)
  have C3 := Lib.hid ((HX2.out.trans HX3.out).block B3.out)
  have d0 := cell2_0 C2.out
  have d1 := cell2_1 C2.out
  have f0 := frozen_of_row _ _ 0 _ _ C2.out
  have f1 := frozen_of_row _ _ 1 _ _ C2.out
  have d2 := cell2_0 C3.out
  have d3 := cell2_1 C3.out
  have f2 := frozen_of_row _ _ 0 _ _ C3.out
  have f3 := frozen_of_row _ _ 1 _ _ C3.out
  clear hs3 hx3
  go_wp2_with fail
  have hb4 := blk4 (v0 := .bool (decide (sgnd q (y.natAbs / z.natAbs) < 0))) (v1 := .slice a2 n2 c2') (v2 := .bool (decide (sgnd false (y.natAbs % z.natAbs) < 0))) (v3 := .slice a3 n3 c3') C2.out C3.out (by omega)
  have hn3 : NoInts ((w3.setCell ⟨w.heap.size + 1 + 1, 0, none⟩ (.bool (decide (sgnd q (y.natAbs / z.natAbs) < 0)))).setCell ⟨w.heap.size + 1 + 1, 1, none⟩ (.slice a2 n2 c2')) (w.heap.size + 1 + 1 + 1) := by
    refine noInts2 (t := 107) (b := false) (a := none) (n := 0) (c := 0) ?_
    rw [(grown2 w3 (w.heap.size + 1 + 1) _ _).block _ (lt_of_block C3.out) (by simp)]
    exact C3.out
  refine ret_num2 rfl rfl hb4.1 rfl hb4.2 rfl ⟨_, _, rfl, ?_, ?_, ?_⟩
  · have hs := ((HS2.out.ext HX3.out).grown (noInts2 C2.out) (grown2 _ _ (.bool (decide (sgnd q (y.natAbs / z.natAbs) < 0))) (.slice a2 n2 c2'))).grown hn3 (grown2 _ _ (.bool (decide (sgnd false (y.natAbs % z.natAbs) < 0))) (.slice a3 n3 c3'))
    rw [show sgnd q (y.natAbs / z.natAbs) = y / z from HEQ.out.1, show sgnd false (y.natAbs % z.natAbs) = y % z from HEQ.out.2] at hs ⊢
    exact num_of' rfl hs
  · have hs := (HS3.out.grown (noInts2 C2.out) (grown2 _ _ (.bool (decide (sgnd q (y.natAbs / z.natAbs) < 0))) (.slice a2 n2 c2'))).grown hn3 (grown2 _ _ (.bool (decide (sgnd false (y.natAbs % z.natAbs) < 0))) (.slice a3 n3 c3'))
    rw [show sgnd q (y.natAbs / z.natAbs) = y / z from HEQ.out.1, show sgnd false (y.natAbs % z.natAbs) = y % z from HEQ.out.2] at hs ⊢
    exact num_of' rfl hs
  · exact ext2 (ext2 ((X0.out.trans HX2.out).trans HX3.out) (by omega) _ _) (by omega) _ _
set_option maxRecDepth 100000 in
set_option maxHeartbeats 1600000 in
theorem numDiv_ex (u v : Value) (y z : Int) (w : World) (hu : NumV w u y) (hv : NumV w v z) (sy : nl y.natAbs ≤ 4000000000000) (sz : nl z.natAbs ≤ 4000000000000) (hz : z ≠ 0) (h1 : y < 0) (hr : y.natAbs % z.natAbs = 0) :
    Calls Tryz.prog 193 #[u, v] w (RetNum2 w (y / z) (y % z)) := by
  have hz0 : 0 < z.natAbs := by omega
  have HEQ := Lib.hid (div_neg_exact h1 hz hr)
  obtain ⟨a, n, c, rfl, hy⟩ := hu
  obtain ⟨a', n', c', rfl, hz⟩ := hv
  have HY := Lib.hid hy
  have HZ := Lib.hid hz
  clear hy hz
  have hp : true = decide (y < 0) := by simpa using h1
  obtain ⟨q, hq⟩ : ∃ q, q = decide (z < 0) := ⟨_, rfl⟩
  rw [← hp, ← hq]
  rw [← hp, ← hq, show (!(true == q)) = (!q) by cases q <;> rfl] at HEQ
  have HSQ : Hid (nl (y.natAbs / z.natAbs) ≤ 100000000000000) := by have := nl_mono (Nat.div_le_self y.natAbs z.natAbs); unfold Hid; omega
  have HSR : Hid (nl (y.natAbs % z.natAbs) ≤ 100000000000000) := by have := nl_mono (Nat.le_of_lt (Nat.mod_lt y.natAbs hz0)); unfold Hid; omega
  have HRR := Lib.hid hr
  clear hr
  clear hp hq
  go_enter Tryz.func193, Tryz.ntmps193
  go_wp2_with fail
  have hb := box4 w (.cells #[.bool true, .slice a n c] 107) (.cells #[.bool q, .slice a' n' c'] 107) (.cells #[.bool false, .slice none 0 0] 107) (.cells #[.bool false, .slice none 0 0] 107)
  generalize (((w.alloc (.cells #[.bool true, .slice a n c] 107)).alloc (.cells #[.bool q, .slice a' n' c'] 107)).alloc (.cells #[.bool false, .slice none 0 0] 107)).alloc (.cells #[.bool false, .slice none 0 0] 107) = W0 at *
  refine (natDivide_any _ _ y.natAbs z.natAbs W0 (HY.out.ext hb.1) (HZ.out.ext hb.1) (by omega) (by omega) hz0).mono ?_
  rintro e W ⟨qv, rv, rfl, hqv, hrv, hx⟩
  obtain ⟨x0, b0, b1, b2, b3⟩ := hb
  have HQV := Lib.hid hqv
  have HRV := Lib.hid hrv
  obtain ⟨ar, cr, rfl, _, _⟩ := hrv
  have X0 := Lib.hid (x0.trans hx)
  have B0 := Lib.hid (hx.block b0)
  have B1 := Lib.hid (hx.block b1)
  have B2 := Lib.hid (hx.block b2)
  have B3 := Lib.hid (hx.block b3)
  have c0 := cell2_0 (hx.block b0)
  have c1 := cell2_1 (hx.block b1)
  have hrl : (limbs (y.natAbs % z.natAbs)).length ≤ 5000000000000 := by
    have := nl_mono (Nat.le_of_lt (Nat.mod_lt y.natAbs hz0)); unfold nl at this sz; omega
  clear x0 b0 b1 b2 b3 hqv hx
  have hr0 : (limbs (y.natAbs % z.natAbs)).length = 0 := by rw [HRR.out, limbs_zero]; rfl
  have e0 := cell2_0 (B0.out)
  have e1 := cell2_0 (B1.out)
  rw [hr0]
  rw [hr0] at HRV
  clear hr0 hrl
  go_wp2_with fail
  refine (number_any _ _ (y.natAbs / z.natAbs) _ HQV.out HSQ.out).mono ?_
  rintro e w2 ⟨v2, rfl, ⟨a2, n2, c2', rfl, hs2⟩, hx2⟩
  have HX2 := Lib.hid hx2
  have HS2 := Lib.hid hs2
  clear hs2 hx2
  go_wp2_with fail
  refine (number_any _ _ (y.natAbs % z.natAbs) _ (HRV.out.ext HX2.out) HSR.out).mono ?_
  rintro e w3 ⟨v3, rfl, ⟨a3, n3, c3', rfl, hs3⟩, hx3⟩
  have HX3 := Lib.hid hx3
  have HS3 := Lib.hid hs3
  have C2 := Lib.hid ((HX2.out.trans HX3.out).block B2.out)
  have C3 := Lib.hid ((HX2.out.trans HX3.out).block B3.out)
  have d0 := cell2_0 C2.out
  have d1 := cell2_1 C2.out
  have f0 := frozen_of_row _ _ 0 _ _ C2.out
  have f1 := frozen_of_row _ _ 1 _ _ C2.out
  have d2 := cell2_0 C3.out
  have d3 := cell2_1 C3.out
  have f2 := frozen_of_row _ _ 0 _ _ C3.out
  have f3 := frozen_of_row _ _ 1 _ _ C3.out
  clear hs3 hx3
  go_wp2_with fail
  have hb4 := blk4 (v0 := .bool (decide (sgnd (!q) (y.natAbs / z.natAbs) < 0))) (v1 := .slice a2 n2 c2') (v2 := .bool (decide (sgnd false (y.natAbs % z.natAbs) < 0))) (v3 := .slice a3 n3 c3') C2.out C3.out (by omega)
  have hn3 : NoInts ((w3.setCell ⟨w.heap.size + 1 + 1, 0, none⟩ (.bool (decide (sgnd (!q) (y.natAbs / z.natAbs) < 0)))).setCell ⟨w.heap.size + 1 + 1, 1, none⟩ (.slice a2 n2 c2')) (w.heap.size + 1 + 1 + 1) := by
    refine noInts2 (t := 107) (b := false) (a := none) (n := 0) (c := 0) ?_
    rw [(grown2 w3 (w.heap.size + 1 + 1) _ _).block _ (lt_of_block C3.out) (by simp)]
    exact C3.out
  refine ret_num2 rfl rfl hb4.1 rfl hb4.2 rfl ⟨_, _, rfl, ?_, ?_, ?_⟩
  · have hs := ((HS2.out.ext HX3.out).grown (noInts2 C2.out) (grown2 _ _ (.bool (decide (sgnd (!q) (y.natAbs / z.natAbs) < 0))) (.slice a2 n2 c2'))).grown hn3 (grown2 _ _ (.bool (decide (sgnd false (y.natAbs % z.natAbs) < 0))) (.slice a3 n3 c3'))
    rw [show sgnd (!q) (y.natAbs / z.natAbs) = y / z from HEQ.out.1, show sgnd false (y.natAbs % z.natAbs) = y % z from HEQ.out.2] at hs ⊢
    exact num_of' rfl hs
  · have hs := (HS3.out.grown (noInts2 C2.out) (grown2 _ _ (.bool (decide (sgnd (!q) (y.natAbs / z.natAbs) < 0))) (.slice a2 n2 c2'))).grown hn3 (grown2 _ _ (.bool (decide (sgnd false (y.natAbs % z.natAbs) < 0))) (.slice a3 n3 c3'))
    rw [show sgnd (!q) (y.natAbs / z.natAbs) = y / z from HEQ.out.1, show sgnd false (y.natAbs % z.natAbs) = y % z from HEQ.out.2] at hs ⊢
    exact num_of' rfl hs
  · exact ext2 (ext2 ((X0.out.trans HX2.out).trans HX3.out) (by omega) _ _) (by omega) _ _
theorem one_new (W : World) : NatV (W.alloc (Obj.cells #[Value.int IntKind.u64 1] 215)).drew (.slice (some ⟨W.heap.size, 0, none⟩) 1 1) 1 := by
  have hr := (row_one W 1).ext ((Ext.refl _).drew)
  refine ⟨_, 1, by rw [limbs_one (by omega) (by omega)]; rfl, by rw [limbs_one (by omega) (by omega)]; simp, ?_⟩
  rw [limbs_one (by omega) (by omega)]; exact hr
set_option maxRecDepth 100000 in
set_option maxHeartbeats 1600000 in
theorem numDiv_rest (u v : Value) (y z : Int) (w : World) (hu : NumV w u y) (hv : NumV w v z) (sy : nl y.natAbs ≤ 4000000000000) (sz : nl z.natAbs ≤ 4000000000000) (hz : z ≠ 0) (h1 : y < 0) (hr : 0 < y.natAbs % z.natAbs) :
    Calls Tryz.prog 193 #[u, v] w (RetNum2 w (y / z) (y % z)) := by
  have hz0 : 0 < z.natAbs := by omega
  have HEQ := Lib.hid (div_neg_rest h1 hz hr)
  obtain ⟨a, n, c, rfl, hy⟩ := hu
  obtain ⟨a', n', c', rfl, hz⟩ := hv
  have HY := Lib.hid hy
  have HZ := Lib.hid hz
  clear hy hz
  have hp : true = decide (y < 0) := by simpa using h1
  obtain ⟨q, hq⟩ : ∃ q, q = decide (z < 0) := ⟨_, rfl⟩
  rw [← hp, ← hq]
  rw [← hp, ← hq, show (!(true == q)) = (!q) by cases q <;> rfl] at HEQ
  have HSQ : Hid (nl (y.natAbs / z.natAbs + 1) ≤ 100000000000000) := by have h1 := nl_mono (Nat.div_le_self y.natAbs z.natAbs); have h2 := nl_add (y.natAbs / z.natAbs) 1; have h3 : nl 1 ≤ 1 := (by unfold nl; rw [limbs_one (by omega) (by omega)]; simp); unfold Hid; omega
  have HSR : Hid (nl (z.natAbs - y.natAbs % z.natAbs) ≤ 100000000000000) := by have := nl_mono (Nat.sub_le z.natAbs (y.natAbs % z.natAbs)); unfold Hid; omega
  clear hp hq
  go_enter Tryz.func193, Tryz.ntmps193
  go_wp2_with fail
  have hb := box4 w (.cells #[.bool true, .slice a n c] 107) (.cells #[.bool q, .slice a' n' c'] 107) (.cells #[.bool false, .slice none 0 0] 107) (.cells #[.bool false, .slice none 0 0] 107)
  generalize (((w.alloc (.cells #[.bool true, .slice a n c] 107)).alloc (.cells #[.bool q, .slice a' n' c'] 107)).alloc (.cells #[.bool false, .slice none 0 0] 107)).alloc (.cells #[.bool false, .slice none 0 0] 107) = W0 at *
  refine (natDivide_any _ _ y.natAbs z.natAbs W0 (HY.out.ext hb.1) (HZ.out.ext hb.1) (by omega) (by omega) hz0).mono ?_
  rintro e W ⟨qv, rv, rfl, hqv, hrv, hx⟩
  obtain ⟨x0, b0, b1, b2, b3⟩ := hb
  have HQV := Lib.hid hqv
  have HRV := Lib.hid hrv
  obtain ⟨ar, cr, rfl, _, _⟩ := hrv
  have X0 := Lib.hid (x0.trans hx)
  have B0 := Lib.hid (hx.block b0)
  have B1 := Lib.hid (hx.block b1)
  have B2 := Lib.hid (hx.block b2)
  have B3 := Lib.hid (hx.block b3)
  have c0 := cell2_0 (hx.block b0)
  have c1 := cell2_1 (hx.block b1)
  have hrl : (limbs (y.natAbs % z.natAbs)).length ≤ 5000000000000 := by
    have := nl_mono (Nat.le_of_lt (Nat.mod_lt y.natAbs hz0)); unfold nl at this sz; omega
  clear x0 b0 b1 b2 b3 hqv hx
  have hr0 : 0 < (limbs (y.natAbs % z.natAbs)).length := len_pos.2 hr
  have hd : decide (0 < ((limbs (y.natAbs % z.natAbs)).length : Int)) = true := by simp only [decide_eq_true_eq]; omega
  have HA := Lib.hid (fun (W' : World) (x : Ext W W') (v : Value) (hv : NatV W' v 1) => natAdd_any _ _ (y.natAbs / z.natAbs) 1 W' (HQV.out.ext x) hv (by have := nl_mono (Nat.div_le_self y.natAbs z.natAbs); omega) (by unfold nl; rw [limbs_one (by omega) (by omega)]; simp))
  have HB := Lib.hid (fun (W' : World) (x : Ext W W') => natSub_any _ _ z.natAbs (y.natAbs % z.natAbs) W' (HZ.out.ext (X0.out.trans x)) (HRV.out.ext x) (by omega) (Nat.le_of_lt (Nat.mod_lt y.natAbs hz0)))
  go_wp2_with fail
  go_region_held3 (fun w' => w'.cell? ⟨w.heap.size + 1, 1, none⟩ = some (.slice a' n' c')) (go_keep)
    (first
      | (go_at_call 194; refine (HA.out _ ?_ _ ?_).mono ?_; (exact ((Ext.refl _).alloc _).drew); (exact one_new W); rintro e w1 ⟨v1, rfl, hv1, hx0⟩; have x1 : Ext W w1 := (((Ext.refl W).alloc _).drew).trans hx0; have k1 := x1.cell (p := ⟨w.heap.size + 1, 1, none⟩) c1; have HV1 := Lib.hid hv1; have XX1 := Lib.hid x1; clear hv1 hx0 x1)
      | (go_at_call 196; refine (HB.out _ XX1.out).mono ?_; rintro e w1b ⟨v1b, rfl, hv1b, hx1b⟩; have k2 := hx1b.cell (p := ⟨w.heap.size + 1, 1, none⟩) k1; have HV1B := Lib.hid hv1b; have XX1B := Lib.hid hx1b; clear hv1b hx1b))
  have HQV2 := Lib.hid (HV1.out.ext XX1B.out)
  have XA := Lib.hid (X0.out.trans (XX1.out.trans XX1B.out))
  have B0' := Lib.hid ((XX1.out.trans XX1B.out).block B0.out)
  have B1' := Lib.hid ((XX1.out.trans XX1B.out).block B1.out)
  have B2' := Lib.hid ((XX1.out.trans XX1B.out).block B2.out)
  have B3' := Lib.hid ((XX1.out.trans XX1B.out).block B3.out)
  clear c0 c1 k1 k2
  have e0 := cell2_0 (B0'.out)
  have e1 := cell2_0 (B1'.out)
  go_wp2_with fail
  refine (number_any _ _ (y.natAbs / z.natAbs + 1) _ HQV2.out HSQ.out).mono ?_
  rintro e w2 ⟨v2, rfl, ⟨a2, n2, c2', rfl, hs2⟩, hx2⟩
  have HX2 := Lib.hid hx2
  have HS2 := Lib.hid hs2
  clear hs2 hx2
  go_wp2_with fail
  refine (number_any _ _ (z.natAbs - y.natAbs % z.natAbs) _ (HV1B.out.ext HX2.out) HSR.out).mono ?_
  rintro e w3 ⟨v3, rfl, ⟨a3, n3, c3', rfl, hs3⟩, hx3⟩
  have HX3 := Lib.hid hx3
  have HS3 := Lib.hid hs3
  have C2 := Lib.hid ((HX2.out.trans HX3.out).block B2'.out)
  have C3 := Lib.hid ((HX2.out.trans HX3.out).block B3'.out)
  have d0 := cell2_0 C2.out
  have d1 := cell2_1 C2.out
  have f0 := frozen_of_row _ _ 0 _ _ C2.out
  have f1 := frozen_of_row _ _ 1 _ _ C2.out
  have d2 := cell2_0 C3.out
  have d3 := cell2_1 C3.out
  have f2 := frozen_of_row _ _ 0 _ _ C3.out
  have f3 := frozen_of_row _ _ 1 _ _ C3.out
  clear hs3 hx3
  go_wp2_with fail
  have hb4 := blk4 (v0 := .bool (decide (sgnd (!q) (y.natAbs / z.natAbs + 1) < 0))) (v1 := .slice a2 n2 c2') (v2 := .bool (decide (sgnd false (z.natAbs - y.natAbs % z.natAbs) < 0))) (v3 := .slice a3 n3 c3') C2.out C3.out (by omega)
  have hn3 : NoInts ((w3.setCell ⟨w.heap.size + 1 + 1, 0, none⟩ (.bool (decide (sgnd (!q) (y.natAbs / z.natAbs + 1) < 0)))).setCell ⟨w.heap.size + 1 + 1, 1, none⟩ (.slice a2 n2 c2')) (w.heap.size + 1 + 1 + 1) := by
    refine noInts2 (t := 107) (b := false) (a := none) (n := 0) (c := 0) ?_
    rw [(grown2 w3 (w.heap.size + 1 + 1) _ _).block _ (lt_of_block C3.out) (by simp)]
    exact C3.out
  refine ret_num2 rfl rfl hb4.1 rfl hb4.2 rfl ⟨_, _, rfl, ?_, ?_, ?_⟩
  · have hs := ((HS2.out.ext HX3.out).grown (noInts2 C2.out) (grown2 _ _ (.bool (decide (sgnd (!q) (y.natAbs / z.natAbs + 1) < 0))) (.slice a2 n2 c2'))).grown hn3 (grown2 _ _ (.bool (decide (sgnd false (z.natAbs - y.natAbs % z.natAbs) < 0))) (.slice a3 n3 c3'))
    rw [show sgnd (!q) (y.natAbs / z.natAbs + 1) = y / z from HEQ.out.1, show sgnd false (z.natAbs - y.natAbs % z.natAbs) = y % z from HEQ.out.2] at hs ⊢
    exact num_of' rfl hs
  · have hs := (HS3.out.grown (noInts2 C2.out) (grown2 _ _ (.bool (decide (sgnd (!q) (y.natAbs / z.natAbs + 1) < 0))) (.slice a2 n2 c2'))).grown hn3 (grown2 _ _ (.bool (decide (sgnd false (z.natAbs - y.natAbs % z.natAbs) < 0))) (.slice a3 n3 c3'))
    rw [show sgnd (!q) (y.natAbs / z.natAbs + 1) = y / z from HEQ.out.1, show sgnd false (z.natAbs - y.natAbs % z.natAbs) = y % z from HEQ.out.2] at hs ⊢
    exact num_of' rfl hs
  · exact ext2 (ext2 ((XA.out.trans HX2.out).trans HX3.out) (by omega) _ _) (by omega) _ _
theorem numDiv_any (u v : Value) (y z : Int) (w : World) (hu : NumV w u y) (hv : NumV w v z) (sy : nl y.natAbs ≤ 4000000000000) (sz : nl z.natAbs ≤ 4000000000000) (hz : z ≠ 0) :
    Calls Tryz.prog 193 #[u, v] w (RetNum2 w (y / z) (y % z)) := by
  by_cases h1 : y < 0
  · rcases Nat.eq_zero_or_pos (y.natAbs % z.natAbs) with h2 | h2
    · exact numDiv_ex u v y z w hu hv sy sz hz h1 h2
    · exact numDiv_rest u v y z w hu hv sy sz hz h1 h2
  · exact numDiv_pos u v y z w hu hv sy sz hz h1
end Go.Proofs.YtpdboaedoimahaaGreatDoor
end
section
namespace Go.Proofs.YtpdboaedoimahaaGreatDoor
open Go.RowKit
theorem row_three (w1 : World) (r s t : Nat) : Row (w1.alloc (Obj.cells #[Value.int IntKind.u64 (r : Int), Value.int IntKind.u64 (s : Int), Value.int IntKind.u64 (t : Int)] 215)) (some ⟨w1.heap.size, 0, none⟩) (u64s [r, s, t]) := by
  intro j hj
  have : j < 3 := by simpa [u64s] using hj
  match j, this with
  | 0, _ => exact ⟨_, _, rfl, by simp [u64s]⟩
  | 1, _ => exact ⟨_, _, rfl, by simp [u64s]⟩
  | 2, _ => exact ⟨_, _, rfl, by simp [u64s]⟩
theorem u64_of_neg {n : Int} (h : n < 0) (h2 : -9223372036854775808 ≤ n) : IntKind.u64.wrap (-(IntKind.u64.wrap n)) = ((n.natAbs : Nat) : Int) := by
  have e : ∀ n : Int, IntKind.u64.wrap n = n % 18446744073709551616 := fun n => by simp [IntKind.wrap, IntKind.signed, IntKind.bits]
  rw [e, e]; omega
theorem u64_of_pos {n : Int} (h : 0 ≤ n) (h2 : n ≤ 9223372036854775807) : IntKind.u64.wrap n = ((n.natAbs : Nat) : Int) := by
  have e : ∀ n : Int, IntKind.u64.wrap n = n % 18446744073709551616 := fun n => by simp [IntKind.wrap, IntKind.signed, IntKind.bits]
  rw [e]; omega
set_option maxRecDepth 100000 in
set_option maxHeartbeats 800000 in
theorem numOf_any (n : Int) (w : World) (h1 : -9223372036854775808 ≤ n) (h2 : n ≤ 9223372036854775807) :
    Calls Tryz.prog 130 #[.int .i64 n] w (RetNum w n) := by
  obtain ⟨m, hm⟩ : ∃ m, m = n.natAbs := ⟨_, rfl⟩
  have hm1 : m ≤ 9223372036854775808 := by omega
  have HM := Lib.hid hm
  by_cases hn : n < 0
  · have hw := u64_of_neg hn h1
    rw [← hm] at hw
    clear hm
    go_enter Tryz.func130, Tryz.ntmps130
    go_wp2_with fail
    rw [show (m : Int) % 1000000000 = ((m % 1000000000 : Nat) : Int) by omega, show (m : Int) / 1000000000 % 1000000000 = ((m / 1000000000 % 1000000000 : Nat) : Int) by omega, show (m : Int) / 1000000000 / 1000000000 = ((m / 1000000000 / 1000000000 : Nat) : Int) by omega]
    have hrow := row_three (w.alloc (Obj.cells #[Value.bool false, Value.slice none 0 0] 107)) (m % 1000000000) (m / 1000000000 % 1000000000) (m / 1000000000 / 1000000000)
    have hsz : (w.alloc (Obj.cells #[Value.bool false, Value.slice none 0 0] 107)).heap.size = w.heap.size + 1 := by simp
    rw [hsz] at hrow
    have hx : Ext w ((w.alloc (Obj.cells #[Value.bool false, Value.slice none 0 0] 107)).alloc (Obj.cells #[Value.int IntKind.u64 ((m % 1000000000 : Nat) : Int), Value.int IntKind.u64 ((m / 1000000000 % 1000000000 : Nat) : Int), Value.int IntKind.u64 ((m / 1000000000 / 1000000000 : Nat) : Int)] 215)) := ((Ext.refl w).alloc _).alloc _
    have hblk : ((w.alloc (Obj.cells #[Value.bool false, Value.slice none 0 0] 107)).alloc (Obj.cells #[Value.int IntKind.u64 ((m % 1000000000 : Nat) : Int), Value.int IntKind.u64 ((m / 1000000000 % 1000000000 : Nat) : Int), Value.int IntKind.u64 ((m / 1000000000 / 1000000000 : Nat) : Int)] 215)).heap[w.heap.size]? = some (Obj.cells #[Value.bool false, Value.slice none 0 0] 107 (0, 0)) := heap_alloc2_old _ _ _
    generalize (w.alloc (Obj.cells #[Value.bool false, Value.slice none 0 0] 107)).alloc (Obj.cells #[Value.int IntKind.u64 ((m % 1000000000 : Nat) : Int), Value.int IntKind.u64 ((m / 1000000000 % 1000000000 : Nat) : Int), Value.int IntKind.u64 ((m / 1000000000 / 1000000000 : Nat) : Int)] 215) = W at *
    refine (trim_len _ _ _ [m % 1000000000, m / 1000000000 % 1000000000, m / 1000000000 / 1000000000] _ rfl (by simp) (by simp) hrow).mono ?_
    rintro e w' ⟨rfl, rfl⟩
    have HNAT := Lib.hid (nat_of_trim (cap := 3) (Low.cons (by omega) (Low.cons (by omega) (Low.cons (by omega) Low.nil))) hrow (n := m) (by simp [val]; omega) (by simp))
    have HX := Lib.hid hx
    have HBL := Lib.hid hblk
    clear hrow hx hblk hsz
    go_wp2_with fail
    refine (number_any _ _ m _ HNAT.out (by have := nl_le_of_lt (n := m) (k := 3) (by omega); omega)).mono ?_
    rintro e w2 ⟨v2, rfl, ⟨a2, n2, c2', rfl, hs2⟩, hx2⟩
    have HX2 := Lib.hid hx2
    have HS2 := Lib.hid hs2
    have BB := Lib.hid (HX2.out.block HBL.out)
    have d0 := cell2_0 BB.out
    have d1 := cell2_1 BB.out
    have f0 := frozen_of_row _ _ 0 _ _ BB.out
    have f1 := frozen_of_row _ _ 1 _ _ BB.out
    clear hs2 hx2
    go_wp2_with fail
    refine ret_num rfl rfl (blk2_set BB.out) rfl ⟨_, rfl, ?_, ext2 (HX.out.trans HX2.out) (Nat.le_refl _) _ _⟩
    have hs := HS2.out.grown (noInts2 BB.out) (grown2 _ _ (.bool (decide (sgnd true m < 0))) (.slice a2 n2 c2'))
    rw [show sgnd true m = n by unfold sgnd; have := HM.out; simp; omega] at hs ⊢
    exact num_of' rfl hs
  · have hw := u64_of_pos (show 0 ≤ n by omega) h2
    rw [← hm] at hw
    clear hm
    go_enter Tryz.func130, Tryz.ntmps130
    go_wp2_with fail
    rw [show (m : Int) % 1000000000 = ((m % 1000000000 : Nat) : Int) by omega, show (m : Int) / 1000000000 % 1000000000 = ((m / 1000000000 % 1000000000 : Nat) : Int) by omega, show (m : Int) / 1000000000 / 1000000000 = ((m / 1000000000 / 1000000000 : Nat) : Int) by omega]
    have hrow := row_three (w.alloc (Obj.cells #[Value.bool false, Value.slice none 0 0] 107)) (m % 1000000000) (m / 1000000000 % 1000000000) (m / 1000000000 / 1000000000)
    have hsz : (w.alloc (Obj.cells #[Value.bool false, Value.slice none 0 0] 107)).heap.size = w.heap.size + 1 := by simp
    rw [hsz] at hrow
    have hx : Ext w ((w.alloc (Obj.cells #[Value.bool false, Value.slice none 0 0] 107)).alloc (Obj.cells #[Value.int IntKind.u64 ((m % 1000000000 : Nat) : Int), Value.int IntKind.u64 ((m / 1000000000 % 1000000000 : Nat) : Int), Value.int IntKind.u64 ((m / 1000000000 / 1000000000 : Nat) : Int)] 215)) := ((Ext.refl w).alloc _).alloc _
    have hblk : ((w.alloc (Obj.cells #[Value.bool false, Value.slice none 0 0] 107)).alloc (Obj.cells #[Value.int IntKind.u64 ((m % 1000000000 : Nat) : Int), Value.int IntKind.u64 ((m / 1000000000 % 1000000000 : Nat) : Int), Value.int IntKind.u64 ((m / 1000000000 / 1000000000 : Nat) : Int)] 215)).heap[w.heap.size]? = some (Obj.cells #[Value.bool false, Value.slice none 0 0] 107 (0, 0)) := heap_alloc2_old _ _ _
    generalize (w.alloc (Obj.cells #[Value.bool false, Value.slice none 0 0] 107)).alloc (Obj.cells #[Value.int IntKind.u64 ((m % 1000000000 : Nat) : Int), Value.int IntKind.u64 ((m / 1000000000 % 1000000000 : Nat) : Int), Value.int IntKind.u64 ((m / 1000000000 / 1000000000 : Nat) : Int)] 215) = W at *
    refine (trim_len _ _ _ [m % 1000000000, m / 1000000000 % 1000000000, m / 1000000000 / 1000000000] _ rfl (by simp) (by simp) hrow).mono ?_
    rintro e w' ⟨rfl, rfl⟩
    have HNAT := Lib.hid (nat_of_trim (cap := 3) (Low.cons (by omega) (Low.cons (by omega) (Low.cons (by omega) Low.nil))) hrow (n := m) (by simp [val]; omega) (by simp))
    have HX := Lib.hid hx
    have HBL := Lib.hid hblk
    clear hrow hx hblk hsz
    go_wp2_with fail
    refine (number_any _ _ m _ HNAT.out (by have := nl_le_of_lt (n := m) (k := 3) (by omega); omega)).mono ?_
    rintro e w2 ⟨v2, rfl, ⟨a2, n2, c2', rfl, hs2⟩, hx2⟩
    have HX2 := Lib.hid hx2
    have HS2 := Lib.hid hs2
    have BB := Lib.hid (HX2.out.block HBL.out)
    have d0 := cell2_0 BB.out
    have d1 := cell2_1 BB.out
    have f0 := frozen_of_row _ _ 0 _ _ BB.out
    have f1 := frozen_of_row _ _ 1 _ _ BB.out
    clear hs2 hx2
    go_wp2_with fail
    refine ret_num rfl rfl (blk2_set BB.out) rfl ⟨_, rfl, ?_, ext2 (HX.out.trans HX2.out) (Nat.le_refl _) _ _⟩
    have hs := HS2.out.grown (noInts2 BB.out) (grown2 _ _ (.bool (decide (sgnd false m < 0))) (.slice a2 n2 c2'))
    rw [show sgnd false m = n by unfold sgnd; have := HM.out; simp; omega] at hs ⊢
    exact num_of' rfl hs
end Go.Proofs.YtpdboaedoimahaaGreatDoor
end
section
namespace Go.Proofs.YtpdboaedoimahaaGreatDoor
open Go.RowKit
def FracV (w : World) (v : Value) (q : Rat) : Prop :=
  ∃ a n c a' n' c', v = .agg #[.bool (decide (q.num < 0)), .slice a n c, .bool false, .slice a' n' c'] ∧ NatV w (.slice a n c) q.num.natAbs ∧ NatV w (.slice a' n' c') q.den
theorem FracV.ext {w w' : World} {v : Value} {q : Rat} (h : FracV w v q) (x : Ext w w') : FracV w' v q := by
  obtain ⟨a, n, c, a', n', c', h1, h2, h3⟩ := h; exact ⟨a, n, c, a', n', c', h1, h2.ext x, h3.ext x⟩
theorem FracV.grown {w w' : World} {v : Value} {q : Rat} {g : Nat} (h : FracV w v q) (hg : NoInts w g) (hw : w.grownBy w' (some g)) : FracV w' v q := by
  obtain ⟨a, n, c, a', n', c', h1, h2, h3⟩ := h; exact ⟨a, n, c, a', n', c', h1, h2.grown hg hw, h3.grown hg hw⟩
theorem NumV.grown {w w' : World} {v : Value} {z : Int} {g : Nat} (h : NumV w v z) (hg : NoInts w g) (hw : w.grownBy w' (some g)) : NumV w' v z := by
  obtain ⟨a, n, c, h1, h2⟩ := h; exact ⟨a, n, c, h1, h2.grown hg hw⟩
def RetFrac (w : World) (q : Rat) (e : Ending) (w' : World) : Prop := ∃ v, e = .returned v ∧ FracV w' v q ∧ Ext w w'
theorem NumV.opn {w : World} {v : Value} {z : Int} (h : NumV w v z) : ∃ b a n c, v = .agg #[.bool b, .slice a n c] ∧ NumV w (.agg #[.bool b, .slice a n c]) z := by
  obtain ⟨a, n, c, rfl, h2⟩ := h; exact ⟨_, a, n, c, rfl, a, n, c, rfl, h2⟩
theorem FracV.opn {w : World} {v : Value} {q : Rat} (h : FracV w v q) : ∃ b a n c b' a' n' c', v = .agg #[.bool b, .slice a n c, .bool b', .slice a' n' c'] ∧ FracV w (.agg #[.bool b, .slice a n c, .bool b', .slice a' n' c']) q := by
  obtain ⟨a, n, c, a', n', c', rfl, h2, h3⟩ := h; exact ⟨_, a, n, c, _, a', n', c', rfl, a, n, c, a', n', c', rfl, h2, h3⟩
theorem FracV.num {w : World} {b b' : Bool} {a a' : Option Addr} {n n' c c' : Nat} {q : Rat} (h : FracV w (.agg #[.bool b, .slice a n c, .bool b', .slice a' n' c']) q) : NumV w (.agg #[.bool b, .slice a n c]) q.num := by
  obtain ⟨_, _, _, _, _, _, h1, h2, h3⟩ := h
  simp only [Value.agg.injEq, Array.mk.injEq, List.cons.injEq, Value.bool.injEq, Value.slice.injEq, and_true] at h1
  obtain ⟨rfl, ⟨rfl, rfl, rfl⟩, rfl, rfl, rfl, rfl⟩ := h1
  exact ⟨_, _, _, rfl, h2⟩
theorem FracV.den {w : World} {b b' : Bool} {a a' : Option Addr} {n n' c c' : Nat} {q : Rat} (h : FracV w (.agg #[.bool b, .slice a n c, .bool b', .slice a' n' c']) q) : NumV w (.agg #[.bool b', .slice a' n' c']) q.den := by
  obtain ⟨_, _, _, _, _, _, h1, h2, h3⟩ := h
  simp only [Value.agg.injEq, Array.mk.injEq, List.cons.injEq, Value.bool.injEq, Value.slice.injEq, and_true] at h1
  obtain ⟨rfl, ⟨rfl, rfl, rfl⟩, rfl, rfl, rfl, rfl⟩ := h1
  refine ⟨_, _, _, ?_, by rw [Int.natAbs_natCast]; exact h3⟩
  rw [show decide (((q.den : Nat) : Int) < 0) = false by simp only [decide_eq_false_iff_not]; omega]
theorem frac_of {w : World} {u v : Value} {x : Int} {d : Nat} {q : Rat} {b b' : Bool} {a a' : Option Addr} {n n' c c' : Nat} (hu : u = .agg #[.bool b, .slice a n c]) (hv : v = .agg #[.bool b', .slice a' n' c'])
    (h1 : NumV w u x) (h2 : NumV w v d) (hx : q.num = x) (hd : q.den = d) : FracV w (.agg #[.bool b, .slice a n c, .bool b', .slice a' n' c']) q := by
  subst hu hv
  obtain ⟨_, _, _, e1, k1⟩ := h1
  obtain ⟨_, _, _, e2, k2⟩ := h2
  simp only [Value.agg.injEq, Array.mk.injEq, List.cons.injEq, Value.bool.injEq, Value.slice.injEq, and_true] at e1 e2
  obtain ⟨rfl, rfl, rfl, rfl⟩ := e1
  obtain ⟨rfl, rfl, rfl, rfl⟩ := e2
  refine ⟨_, _, _, _, _, _, ?_, by rw [hx]; exact k1, by rw [hd]; rw [Int.natAbs_natCast] at k2; exact k2⟩
  rw [hx, show decide (((d : Nat) : Int) < 0) = false by simp only [decide_eq_false_iff_not]; omega]
theorem cell4_0 {w : World} {g : Nat} {x y z u : Value} {t : TypeId} (h : w.heap[g]? = some (.cells #[x, y, z, u] t (0, 0))) : w.cell? ⟨g, 0, none⟩ = some x := by rw [cell_of_row _ _ _ _ _ _ h]; rfl
theorem cell4_1 {w : World} {g : Nat} {x y z u : Value} {t : TypeId} (h : w.heap[g]? = some (.cells #[x, y, z, u] t (0, 0))) : w.cell? ⟨g, 1, none⟩ = some y := by rw [cell_of_row _ _ _ _ _ _ h]; rfl
theorem cell4_2 {w : World} {g : Nat} {x y z u : Value} {t : TypeId} (h : w.heap[g]? = some (.cells #[x, y, z, u] t (0, 0))) : w.cell? ⟨g, 2, none⟩ = some z := by rw [cell_of_row _ _ _ _ _ _ h]; rfl
theorem cell4_3 {w : World} {g : Nat} {x y z u : Value} {t : TypeId} (h : w.heap[g]? = some (.cells #[x, y, z, u] t (0, 0))) : w.cell? ⟨g, 3, none⟩ = some u := by rw [cell_of_row _ _ _ _ _ _ h]; rfl
theorem blk4_set {w : World} {g : Nat} {t : TypeId} {o0 o1 o2 o3 v0 v1 v2 v3 : Value} (h : w.heap[g]? = some (.cells #[o0, o1, o2, o3] t (0, 0))) :
    ((((w.setCell ⟨g, 0, none⟩ v0).setCell ⟨g, 1, none⟩ v1).setCell ⟨g, 2, none⟩ v2).setCell ⟨g, 3, none⟩ v3).heap[g]? = some (.cells #[v0, v1, v2, v3] t (0, 0)) := by
  rw [heap_setCell_same _ _ _ _ _ _ (heap_setCell_same _ _ _ _ _ _ (heap_setCell_same _ _ _ _ _ _ (heap_setCell_same _ _ _ _ _ _ h)))]; rfl
theorem grown4 (w : World) (g : Nat) (v0 v1 v2 v3 : Value) : w.grownBy ((((w.setCell ⟨g, 0, none⟩ v0).setCell ⟨g, 1, none⟩ v1).setCell ⟨g, 2, none⟩ v2).setCell ⟨g, 3, none⟩ v3) (some g) :=
  grown_trans (grown2 _ _ _ _) (grown_trans (grown_setCell _ _ _) (grown_setCell _ _ _))
theorem ext4 {a w : World} {g : Nat} (h : Ext a w) (hg : a.heap.size ≤ g) (v0 v1 v2 v3 : Value) : Ext a ((((w.setCell ⟨g, 0, none⟩ v0).setCell ⟨g, 1, none⟩ v1).setCell ⟨g, 2, none⟩ v2).setCell ⟨g, 3, none⟩ v3) :=
  ((ext2 h hg v0 v1).setCell (p := ⟨g, 2, none⟩) hg v2).setCell (p := ⟨g, 3, none⟩) hg v3
theorem noInts4 {w : World} {g : Nat} {t : TypeId} {b b' : Bool} {a a' : Option Addr} {n c n' c' : Nat} (h : w.heap[g]? = some (.cells #[.bool b, .slice a n c, .bool b', .slice a' n' c'] t (0, 0))) : NoInts w g := by
  refine ⟨_, _, _, h, fun j k z e => ?_⟩
  match j with
  | 0 => simp at e
  | 1 => simp at e
  | 2 => simp at e
  | 3 => simp at e
  | j + 4 => simp at e
theorem Tryz.size109 : (Tryz.prog.info? 109).map (·.size) = some 4 := by kernel_rfl
theorem ret_frac {fn : Func} {p : Tmp} {R : Ending → World → Prop} {a : Act} {w : World} {g : Nat} {v0 v1 v2 v3 : Value} (h : fn.results = #[.cell p 109])
    (hp : a.tmps.getD p undef = .pointer (some ⟨g, 0, none⟩)) (hg : w.heap[g]? = some (.cells #[v0, v1, v2, v3] 109 (0, 0))) (hd : a.defers = []) (hR : R (.returned (.agg #[v0, v1, v2, v3])) w) :
    bodyPost Tryz.prog fn R .ret a w :=
  ⟨hd, _, results_cell_row h a.tmps w g _ _ _ _ hp hg Tryz.underlying109 rfl Tryz.size109, hR⟩
set_option maxRecDepth 100000 in
set_option maxHeartbeats 400000 in
theorem fracSign_any (v : Value) (q : Rat) (w : World) (h : FracV w v q) (hn : nl q.num.natAbs ≤ 100000000000000) :
    Calls Tryz.prog 156 #[v] w fun e w' => e = .returned (.int .i64 (sgn q.num)) ∧ Ext w w' := by
  have H := Lib.hid h
  obtain ⟨a, n, c, a', n', c', rfl, _, _⟩ := h
  have hx : Ext w (w.alloc (.cells #[.bool (decide (q.num < 0)), .slice a n c, .bool false, .slice a' n' c'] 109)) := (Ext.refl w).alloc _
  have HX := Lib.hid hx
  have hs := Lib.hid (numSign_any _ q.num _ (H.out.num.ext hx) hn)
  clear hx
  go_enter Tryz.func156, Tryz.ntmps156
  go_wp2_with fail
  refine hs.out.mono ?_
  rintro e w1 ⟨rfl, hx1⟩
  have HX1 := Lib.hid hx1
  clear hx1
  go_wp2_with fail
  go_ret
  exact ⟨rfl, HX.out.trans HX1.out⟩
end Go.Proofs.YtpdboaedoimahaaGreatDoor
end
section
namespace Go.Proofs.YtpdboaedoimahaaGreatDoor
open Go.RowKit
theorem box1 (w : World) (A : Obj) : Ext w (w.alloc A) ∧ (w.alloc A).heap[w.heap.size]? = some A := ⟨(Ext.refl w).alloc _, heap_alloc_new w A⟩
theorem box2 (w : World) (A B : Obj) : Ext w ((w.alloc A).alloc B) ∧ ((w.alloc A).alloc B).heap[w.heap.size]? = some A ∧ ((w.alloc A).alloc B).heap[w.heap.size + 1]? = some B :=
  ⟨((Ext.refl w).alloc _).alloc _, heap_alloc2_old w A B, heap_alloc2_new w A B⟩
theorem run_build_frac (w : World) (x0 x1 y0 y1 : Value) : (Instr.build 109 #[(0, .agg #[x0, x1]), (1, .agg #[y0, y1])]).run Tryz.prog w = .ok (.agg #[x0, x1, y0, y1]) w := by kernel_rfl
theorem nl_one : nl 1 ≤ 1 := by unfold nl; rw [limbs_one (by omega) (by omega)]; simp
theorem sgn_eq_zero {d : Nat} : (sgn ((d : Int) - 1) == 0) = decide (d = 1) := by
  rcases Int.lt_trichotomy ((d : Int) - 1) 0 with h | h | h
  · rw [sgn_neg h, decide_eq_false (by omega)]; rfl
  · rw [h, sgn_zero, decide_eq_true (by omega)]; rfl
  · rw [sgn_pos h, decide_eq_false (by omega)]; rfl
set_option maxRecDepth 100000 in
set_option maxHeartbeats 1600000 in
theorem fracWhole_any (v : Value) (q : Rat) (w : World) (hv : FracV w v q) (hd : nl q.den ≤ 4000000000000) :
    Calls Tryz.prog 152 #[v] w fun e w' => e = .returned (.bool (decide (q.den = 1))) ∧ Ext w w' := by
  have Hv := Lib.hid hv
  obtain ⟨a, n, c, a', n', c', rfl, _, _⟩ := hv
  obtain ⟨p, hp⟩ : ∃ p, p = decide (q.num < 0) := ⟨_, rfl⟩
  rw [← hp] at Hv ⊢
  clear hp
  go_enter Tryz.func152, Tryz.ntmps152
  go_wp2_with fail
  have hb := box1 w (.cells #[.bool p, .slice a n c, .bool false, .slice a' n' c'] 109)
  generalize w.alloc (.cells #[.bool p, .slice a n c, .bool false, .slice a' n' c'] 109) = W at *
  obtain ⟨x0, b0⟩ := hb
  have X0 := Lib.hid x0
  have B0 := Lib.hid b0
  clear x0 b0
  have c0 := cell4_0 B0.out
  have c1 := cell4_1 B0.out
  have c2 := cell4_2 B0.out
  have c3 := cell4_3 B0.out
  have HO := Lib.hid (fun (W' : World) (_ : Ext W W') => numOf_any 1 W' (by omega) (by omega))
  go_region_held3 (fun w' => w'.cell? ⟨w.heap.size, 0, none⟩ = some (.bool p) ∧ w'.cell? ⟨w.heap.size, 1, none⟩ = some (.slice a n c) ∧ w'.cell? ⟨w.heap.size, 2, none⟩ = some (.bool false) ∧ w'.cell? ⟨w.heap.size, 3, none⟩ = some (.slice a' n' c')) (go_keep)
    (first
      | (go_at_call 130; refine (HO.out _ (Ext.refl _).drew).mono ?_; rintro e w1 ⟨v1, rfl, hv1, hx0⟩; have k0_0 := hx0.cell (p := ⟨w.heap.size, 0, none⟩) c0; have k0_1 := hx0.cell (p := ⟨w.heap.size, 1, none⟩) c1; have k0_2 := hx0.cell (p := ⟨w.heap.size, 2, none⟩) c2; have k0_3 := hx0.cell (p := ⟨w.heap.size, 3, none⟩) c3; have HV1 := Lib.hid hv1; have HX1 := Lib.hid hx0; clear hv1; clear hx0)
      | (go_at_call 129; refine (numCompare_any _ _ q.den 1 _ (Hv.out.den.ext (X0.out.trans ((Ext.refl _).drew.trans HX1.out))) HV1.out (by rw [Int.natAbs_natCast]; omega) (by have := nl_one; simp; omega)).mono ?_; rintro e w2 ⟨rfl, hx1⟩; have k1_0 := hx1.cell (p := ⟨w.heap.size, 0, none⟩) k0_0; have k1_1 := hx1.cell (p := ⟨w.heap.size, 1, none⟩) k0_1; have k1_2 := hx1.cell (p := ⟨w.heap.size, 2, none⟩) k0_2; have k1_3 := hx1.cell (p := ⟨w.heap.size, 3, none⟩) k0_3; have HX2 := Lib.hid hx1; clear hx1 k0_0 k0_1 k0_2 k0_3))
  go_wp2_with fail
  go_ret
  exact ⟨congrArg (fun b => Ending.returned (.bool b)) sgn_eq_zero, (X0.out.trans ((Ext.refl _).drew.trans HX1.out)).trans HX2.out⟩
set_option maxRecDepth 100000 in
set_option maxHeartbeats 1600000 in
theorem fracOfNum_any (v : Value) (z : Int) (w : World) (hv : NumV w v z) :
    Calls Tryz.prog 150 #[v] w (RetFrac w (z : Rat)) := by
  have Hv := Lib.hid hv
  obtain ⟨a, n, c, rfl, _⟩ := hv
  obtain ⟨p, hp⟩ : ∃ p, p = decide (z < 0) := ⟨_, rfl⟩
  rw [← hp] at Hv ⊢
  clear hp
  go_enter Tryz.func150, Tryz.ntmps150
  go_wp2_with fail
  have hb := box2 w (.cells #[.bool p, .slice a n c] 107) (.cells #[.bool false, .slice none 0 0, .bool false, .slice none 0 0] 109)
  generalize (w.alloc (.cells #[.bool p, .slice a n c] 107)).alloc (.cells #[.bool false, .slice none 0 0, .bool false, .slice none 0 0] 109) = W at *
  obtain ⟨x0, b0, b1⟩ := hb
  have X0 := Lib.hid x0
  have B0 := Lib.hid b0
  have B1 := Lib.hid b1
  clear x0 b0 b1
  have c0 := cell2_0 B0.out
  have c1 := cell2_1 B0.out
  have hbu := run_build_frac
  have HO := Lib.hid (fun (W' : World) (_ : Ext W W') => numOf_any 1 W' (by omega) (by omega))
  go_region_with (first
      | (go_at_call 130; refine (HO.out _ (Ext.refl _).drew).mono ?_; rintro e w1 ⟨v1, rfl, ⟨a1, n1, c1', rfl, hs1⟩, hx0⟩; have k0_0 := hx0.cell (p := ⟨w.heap.size, 0, none⟩) c0; have k0_1 := hx0.cell (p := ⟨w.heap.size, 1, none⟩) c1; have HN1 : Hid (NumV w1 (.agg #[.bool false, .slice a1 n1 c1']) ((1 : Nat) : Int)) := num_of' rfl hs1; have HX1 := Lib.hid hx0; have BB := Lib.hid (HX1.out.block (g := w.heap.size + 1) B1.out); have d0 := cell4_0 BB.out; have d1 := cell4_1 BB.out; have d2 := cell4_2 BB.out; have d3 := cell4_3 BB.out; have f0 := frozen_of_row _ _ 0 _ _ BB.out; have f1 := frozen_of_row _ _ 1 _ _ BB.out; have f2 := frozen_of_row _ _ 2 _ _ BB.out; have f3 := frozen_of_row _ _ 3 _ _ BB.out; clear hs1; clear hx0))
  all_goals
    go_wp2_with fail
    refine ret_frac rfl rfl (blk4_set BB.out) rfl ⟨_, rfl, (frac_of (q := (z : Rat)) (d := 1) rfl rfl (Hv.out.ext (X0.out.trans ((Ext.refl _).drew.trans HX1.out))) HN1.out (Rat.num_intCast z) (Rat.den_intCast z)).grown (noInts4 BB.out) (grown4 _ _ _ _ _ _), ext4 (X0.out.trans ((Ext.refl _).drew.trans HX1.out)) (by omega) _ _ _ _⟩
set_option maxRecDepth 100000 in
set_option maxHeartbeats 1600000 in
theorem fracOf_any (z : Int) (w : World) (h1 : -9223372036854775808 ≤ z) (h2 : z ≤ 9223372036854775807) :
    Calls Tryz.prog 86 #[.int .i64 z] w (RetFrac w (z : Rat)) := by
  go_enter Tryz.func86, Tryz.ntmps86
  go_wp2_with fail
  have hb := box1 w (.cells #[.bool false, .slice none 0 0, .bool false, .slice none 0 0] 109)
  generalize w.alloc (.cells #[.bool false, .slice none 0 0, .bool false, .slice none 0 0] 109) = W at *
  obtain ⟨x0, b0⟩ := hb
  have X0 := Lib.hid x0
  have B0 := Lib.hid b0
  clear x0 b0
  refine (numOf_any z W h1 h2).mono ?_
  rintro e w1 ⟨v1, rfl, hv1, hx1⟩
  have HV1 := Lib.hid hv1
  have HX1 := Lib.hid hx1
  clear hv1 hx1
  go_wp2_with fail
  refine (fracOfNum_any _ z _ HV1.out).mono ?_
  rintro e w2 ⟨v2, rfl, hv2, hx2⟩
  have HV2 := Lib.hid hv2
  obtain ⟨a1, n1, c1, a1', n1', c1', rfl, _, _⟩ := hv2
  have HX2 := Lib.hid hx2
  have BB := Lib.hid ((HX1.out.trans HX2.out).block B0.out)
  have d0 := cell4_0 BB.out
  have d1 := cell4_1 BB.out
  have d2 := cell4_2 BB.out
  have d3 := cell4_3 BB.out
  have f0 := frozen_of_row _ _ 0 _ _ BB.out
  have f1 := frozen_of_row _ _ 1 _ _ BB.out
  have f2 := frozen_of_row _ _ 2 _ _ BB.out
  have f3 := frozen_of_row _ _ 3 _ _ BB.out
  clear hx2
  all_goals
    go_wp2_with fail
    refine ret_frac rfl rfl (blk4_set BB.out) rfl ⟨_, rfl, HV2.out.grown (noInts4 BB.out) (grown4 _ _ _ _ _ _), ext4 ((X0.out.trans HX1.out).trans HX2.out) (by omega) _ _ _ _⟩
end Go.Proofs.YtpdboaedoimahaaGreatDoor
end
