/- Joined out of parts of one proof by a program: contracts of the functions that the statement reaches, and the plain facts behind them. -/
import Derived.Test.YtpdboaedoimahaaGreatDoorKD02
import Derived.Outline
import Derived.Deep.RegionWith
import Derived.Deep.DeepCutAuto
import Derived.Laws.CopyOwn
import Derived.Deep.LoopGhost
import Derived.Deep.RegionHeld3
import Derived.Laws.AppendOwn
import Derived.Laws.MakeOwn
set_option linter.unusedVariables false
set_option linter.unusedSimpArgs false
set_option linter.unusedSectionVars false
section
namespace Go.Proofs.YtpdboaedoimahaaGreatDoor
open Go.RowKit
def RetNat2 (w : World) (m n : Nat) (e : Ending) (w' : World) : Prop := ∃ u v, e = .returned (.tuple #[u, v]) ∧ NatV w' u m ∧ NatV w' v n ∧ Ext w w'
theorem cmp_ge {m n : Nat} (h : n ≤ m) : 0 ≤ sgn ((m : Int) - n) := by
 rcases Nat.lt_or_ge n m with h1 | h1
 ·rw [sgn_pos (by omega)]; omega
 ·rw [show (m : Int) - n = 0 by omega, sgn_zero]; omega
set_option maxRecDepth 100000 in
set_option maxHeartbeats 800000 in
theorem divide_less (va vb : Value) (m n : Nat) (w : World) (ha : NatV w va m) (hb : NatV w vb n) (sa : nl m ≤ 10000000000000) (sb : nl n ≤ 10000000000000) (hlt : m < n) :
  Calls Tryz.prog 214 #[va, vb] w (RetNat2 w 0 m) := by
 have HA := Lib.hid ha
 have hc := natCompare_any va vb m n w ha hb sa sb
 rw [sgn_neg (by omega)] at hc
 have HC := Lib.hid hc
 clear ha hb hc
 go_enter Tryz.func214, Tryz.ntmps214
 go_wp2_with fail
 refine HC.out.mono ?_
 rintro e w' ⟨rfl, q, rfl⟩
 go_wp2_with fail
 go_ret2
 exact ⟨_, _, rfl, NatV.zero _ _ _, HA.out.ext ((Ext.refl w).drewN q), (Ext.refl w).drewN q⟩
theorem limbs_one {d : Nat} (h0 : d ≠ 0) (h : d < 1000000000) : limbs d = [d] := by
 rw [limbs_pos h0, show d / 1000000000 = 0 by omega, limbs_zero, show d % 1000000000 = d by omega]
theorem row_one (w1 : World) (r : Nat) : Row (w1.alloc (Obj.cells #[Value.int IntKind.u64 (r : Int)] 215)) (some ⟨w1.heap.size, 0, none⟩) (u64s [r]) := by
 intro j hj
 obtain rfl : j = 0 := by simpa [u64s] using hj
 exact ⟨_, _, rfl, by simp [u64s]⟩
set_option maxRecDepth 100000 in
set_option maxHeartbeats 800000 in
theorem divide_short (va vb : Value) (m n : Nat) (w : World) (ha : NatV w va m) (hb : NatV w vb n) (sa : nl m ≤ 10000000000000) (hn0 : 0 < n) (hn : n < 1000000000) (hge : n ≤ m) :
  Calls Tryz.prog 214 #[va, vb] w (RetNat2 w (m / n) (m % n)) := by
 have hl := limbs_one (by omega) hn
 have HA := Lib.hid ha
 have hc := natCompare_any va vb m n w ha hb sa (by unfold nl; rw [hl]; simp)
 obtain ⟨s, hs⟩ : ∃ s, s = sgn ((m : Int) - n) := ⟨_, rfl⟩
 have hs0 : 0 ≤ s := by rw [hs]; exact cmp_ge hge
 rw [← hs] at hc
 have HC := Lib.hid hc
 obtain ⟨b, cb, rfl, _, hrow⟩ := hb
 rw [hl] at hrow HC ⊢
 obtain ⟨bb, ob, rfl, hcb⟩ := hrow.at (j := 0) (by simp)
 simp only [List.getD_cons_zero, Nat.add_zero] at hcb
 have hd0 : decide (s < 0) = false := by simp; omega
 clear ha hc hrow hs hl
 go_enter Tryz.func214, Tryz.ntmps214
 go_wp2_with fail
 refine HC.out.mono ?_
 rintro e w' ⟨rfl, q, rfl⟩
 go_wp2_with fail
 have hsh := natShort_any va m n _ (HA.out.ext ((Ext.refl w).drewN q)) sa hn0 hn
 obtain ⟨r, hr⟩ : ∃ r, r = m % n := ⟨_, rfl⟩
 rw [← hr] at hsh
 have hrn : r < 1000000000 := by rw [hr]; have := Nat.mod_lt m hn0; omega
 have HR := Lib.hid hr
 clear hr
 refine hsh.mono ?_
 rintro e w1 ⟨v, rfl, hv, hx⟩
 have HV := Lib.hid hv
 have HX := Lib.hid hx
 clear hv hx hsh
 go_wp2_with fail
 have hrow : Row (w1.alloc (Obj.cells #[Value.int IntKind.u64 (r : Int)] 215)) (some ⟨w1.heap.size, 0, none⟩) (u64s [r]) := row_one w1 r
 refine (trim_len _ _ _ [r] _ rfl (by simp) (by simp) hrow).mono ?_
 rintro e w' ⟨rfl, rfl⟩
 have hnat := nat_of_trim (cap := 1) (Low.cons hrn Low.nil) hrow (n := r) (by simp [val]) (by simp)
 have HNAT := Lib.hid hnat
 clear hnat hrow
 go_wp2_with fail
 go_ret2
 have hx2 := (((Ext.refl w).drewN q).trans HX.out).alloc (Obj.cells #[Value.int IntKind.u64 (r : Int)] 215)
 exact ⟨_, _, rfl, HV.out.ext ((Ext.refl w1).alloc _), by rw [← HR.out]; exact HNAT.out, hx2⟩
def zrow (n : Nat) : Array Value := (u64s (List.replicate n 0)).toArray
theorem run_make_zeros (W : World) (N : Int) (n : Nat) (hN : N = n) (hn : n ≤ 30000000000000) :
  (Instr.makeSlice 105 (.int .i64 N) (.int .i64 N)).run Tryz.prog W = .ok (.slice (some ⟨W.heap.size, 0, none⟩) n n) (W.alloc (.cells (zrow n) 215)) := by
 subst hN
 obtain ⟨i0, hi, hz0, hz1, hz2⟩ := info_parts Tryz.info215
 have := run_make (P := Tryz.prog) W 105 215 i0 (.int .u64 0) Tryz.underlying105 hi hz0 .i64 .i64 n n (by omega) (by omega) (by rw [hz2]; omega) (by omega)
 rw [this, Int.toNat_natCast, hz1]
 have e : madeCells (Value.int .u64 0).cells (n * 1) = zrow n := by
  apply Array.ext'; rw [made_u64]; rfl
 rw [e]
theorem owns_zeros (W : World) (base n : Nat) (hb : base ≤ W.heap.size) (hn : n ≤ 30000000000000) :
  (W.alloc (.cells (zrow n) 215)).ownsRow base 215 1 (.slice (some ⟨W.heap.size, 0, none⟩) n n) n (u64s (List.replicate n 0)) := by
 have := World.ownsRow_lit (e := 215) (size := 1) (base := base) W (zrow n) n hb (by unfold maxLen; omega) (by simp [zrow])
 exact this
def MadeTwo (w : World) (B N V : Nat) (u v : Value) (wx : World) : Prop :=
 ∃ g av nv cv, u = .slice (some ⟨g, 0, none⟩) N N ∧ v = .slice av nv cv ∧ nv = nl V ∧ wx.ownsRow B 215 1 (.slice (some ⟨g, 0, none⟩) N N) N (u64s (List.replicate N 0)) ∧
  RowOff wx g av (u64s (limbs V)) ∧ Ext w wx ∧ w.heap.size ≤ g
theorem Ext.grownBy {w w' : World} (h : Ext w w') (r : Option Nat) : w.grownBy w' r := ⟨h.os, h.tape, h.output, h.size, fun k hk _ => Below.block h k hk⟩
theorem owns_ext {w w' : World} {base : Nat} {e : TypeId} {size g n cap k : Nat} {xs : List Value} (h : w.ownsRow base e size (.slice (some ⟨g, 0, none⟩) n cap) k xs) (x : Ext w w') :
  w'.ownsRow base e size (.slice (some ⟨g, 0, none⟩) n cap) k xs := h.kept (x.grownBy none) (Or.inr (by simp [Value.ownBlock]))
theorem made_a {W2 w3 : World} {N V kk cap : Nat} (hN : N ≤ 30000000000000) (hv : NatV w3 (.slice (some ⟨(W2.alloc (.cells (zrow N) 215)).drew.heap.size, 0, none⟩) kk cap) V)
  (hx : Ext (W2.alloc (.cells (zrow N) 215)).drew w3) :
  MadeTwo W2 W2.heap.size N V (.slice (some ⟨W2.heap.size, 0, none⟩) N N) (.slice (some ⟨W2.heap.size + 1, 0, none⟩) kk cap) w3 := by
 have hs : (W2.alloc (.cells (zrow N) 215)).drew.heap.size = W2.heap.size + 1 := by simp
 rw [hs] at hv
 obtain ⟨a', c', e1, _, hr⟩ := hv
 simp only [Value.slice.injEq] at e1
 obtain ⟨rfl, e2, rfl⟩ := e1
 refine ⟨W2.heap.size, _, _, _, rfl, rfl, e2, owns_ext (World.ownsRow.drew (owns_zeros W2 _ N (Nat.le_refl _) hN)) hx, ⟨hr, ?_⟩, (((Ext.refl W2).alloc _).drew).trans hx, Nat.le_refl _⟩
 intro b off hb
 simp only [Option.some.injEq, Addr.mk.injEq, and_true] at hb
 omega
theorem made_b {W2 w3 : World} {N V kk cap : Nat} (hN : N ≤ 30000000000000) (hV : 0 < V) (hv : NatV w3 (.slice (some ⟨W2.drew.heap.size, 0, none⟩) kk cap) V) (hx : Ext W2.drew w3) :
  MadeTwo W2 W2.heap.size N V (.slice (some ⟨w3.heap.size, 0, none⟩) N N) (.slice (some ⟨W2.heap.size, 0, none⟩) kk cap) (w3.alloc (.cells (zrow N) 215)) := by
 have hs : W2.drew.heap.size = W2.heap.size := rfl
 rw [hs] at hv
 obtain ⟨a', c', e1, _, hr⟩ := hv
 simp only [Value.slice.injEq] at e1
 obtain ⟨rfl, e2, rfl⟩ := e1
 have hlt : W2.heap.size < w3.heap.size := by
  obtain ⟨b, off, h1, h2⟩ := hr.at (j := 0) (by
   have : limbs V ≠ [] := fun e => by have := limbs_eq_nil.1 e; omega
   exact List.length_pos_iff.2 this)
  simp only [Option.some.injEq, Addr.mk.injEq, and_true] at h1
  have := block_lt_of_cell h2
  simp only at this
  omega
 have hx2 : Ext W2 w3 := ((Ext.refl W2).drew).trans hx
 refine ⟨w3.heap.size, _, _, _, rfl, rfl, e2, owns_zeros w3 _ N hx2.size hN, ⟨hr.ext ((Ext.refl w3).alloc _), ?_⟩, hx2.alloc _, hx2.size⟩
 intro b off hb
 simp only [Option.some.injEq, Addr.mk.injEq, and_true] at hb
 omega
theorem owns_block {w : World} {base g n : Nat} {e : TypeId} {xs : List Value} (h : w.ownsRow base e 1 (.slice (some ⟨g, 0, none⟩) n n) n xs) :
  w.heap[g]? = some (.cells xs.toArray e (0, 0)) ∧ base ≤ g := by
 rcases h.2 with ⟨h', _⟩ | ⟨g', cap', cur, h', hb, hg, _, _, hsz, htake⟩
 ·simp at h'
 ·simp only [Value.slice.injEq, Option.some.injEq, Addr.mk.injEq, and_true, true_and] at h'
  obtain ⟨rfl, rfl⟩ := h'
  rw [List.take_of_length_le (by simp; omega)] at htake
  rw [← htake]
  exact ⟨by simpa using hg, hb⟩
theorem block_owns {w : World} {base g n : Nat} {e : TypeId} {xs : List Value} (h : w.heap[g]? = some (.cells xs.toArray e (0, 0))) (hb : base ≤ g) (hn : xs.length = n) (hm : n ≤ 30000000000000) :
  w.ownsRow base e 1 (.slice (some ⟨g, 0, none⟩) n n) n xs := by
 refine ⟨by omega, Or.inr ⟨g, n, xs.toArray, rfl, hb, h, Nat.le_refl _, by unfold maxLen; omega, by simp; omega, ?_⟩⟩
 rw [List.take_of_length_le (by simp; omega)]
theorem grown_setRow (w : World) (g : Nat) (cs : Array Value) : w.grownBy (w.setRow g cs) (some g) :=
 ⟨rfl, rfl, rfl, by simp, fun k _ hk => setRow_other w g k _ (fun e => hk (by simp [e]))⟩
theorem copied {w : World} {base g N : Nat} {l : List Nat} (h : w.ownsRow base 215 1 (.slice (some ⟨g, 0, none⟩) N N) N (u64s (List.replicate N 0))) (hl : l.length ≤ N) (hN : N ≤ 30000000000000) :
  (w.setRow g ((u64s (List.replicate N 0)).toArray.toList.take 0 ++ (u64s l ++ (u64s (List.replicate N 0)).toArray.toList.drop (0 + (u64s l).length))).toArray).ownsRow base 215 1 (.slice (some ⟨g, 0, none⟩) N N) N
   (u64s (l ++ List.replicate (N - l.length) 0)) := by
 obtain ⟨h1, h2⟩ := owns_block h
 have e : (u64s (List.replicate N 0)).toArray.toList.take 0 ++ (u64s l ++ (u64s (List.replicate N 0)).toArray.toList.drop (0 + (u64s l).length)) = u64s (l ++ List.replicate (N - l.length) 0) := by
  simp [u64s]
 rw [e]
 exact block_owns (setRow_heap w g _ _ _ _ h1) h2 (by simp; omega) hN
theorem wpList_copy_zeros {w : World} {ops : Array Oper} {rest : List Oper} {o : Oper} {a : Act} {Q : Exit → Act → World → Prop} (hgd : o.guard = none) (d s : Operand)
  (ho : o.op = .call { callee := .builtin .copy, args := #[d, s], argTypes := #[105, 105] })
  (base g N sLen sCap : Nat) (ad : Addr) (l : List Nat) (hd : a.eval d = .slice (some ⟨g, 0, none⟩) N N) (hs : a.eval s = .slice (some ad) sLen sCap)
  (hown : w.ownsRow base 215 1 (.slice (some ⟨g, 0, none⟩) N N) N (u64s (List.replicate N 0))) (hl : l.length = sLen) (hN : N ≤ 30000000000000) (hle : l.length ≤ N)
  (hsrc : Row w (some ad) (u64s l))
  (h : ∀ w', w'.ownsRow base 215 1 (.slice (some ⟨g, 0, none⟩) N N) N (u64s (l ++ List.replicate (N - l.length) 0)) → w.grownBy w' (some g) → wpList Tryz.prog ops Q rest (a.put o.dst (goInt (u64s l).length)) w') :
  wpList Tryz.prog ops Q (o :: rest) a w := by
 obtain ⟨i0, hi, hz0, hz1, hz2⟩ := info_parts Tryz.info215
 refine wpList_copy_own hgd d s _ _ ho 215 Tryz.underlying105 (by rw [hi]; simp [hz1]) g 0 N N ad sLen sCap hd hs (u64s (List.replicate N 0)).toArray 215 (owns_block hown).1 (u64s l)
  (by rw [length_u64s, hl]; exact (Nat.min_eq_left (by omega)).symm) (fun j v hj => ?_) (by simp; omega) (fun v hv => ?_) (h _ (copied hown hle hN) (grown_setRow _ _ _))
 ·have hjl : j < l.length := by
   rcases Nat.lt_or_ge j l.length with h | h
   ·exact h
   ·rw [List.getElem?_eq_none (by simpa using h)] at hj; cases hj
  obtain ⟨b', off', h1, h2⟩ := hsrc j (by simpa using hjl)
  simp only [Option.some.injEq] at h1
  subst h1
  have : (⟨b', off', none⟩ : Addr).add j = ⟨b', off' + j, none⟩ := by
   unfold Addr.add; split
   ·rename_i h; subst h; rfl
   ·rfl
  rw [this, h2, List.getD_eq_getElem?_getD, hj]; rfl
 ·obtain ⟨x, _, rfl⟩ := List.mem_map.1 hv; rfl
def DivRel (w : World) (A V n M N g gq : Nat) (av : Option Addr) (i : Value) (wr : World) : Prop :=
 ∃ (j : Nat) (u qs : List Nat), j ≤ M ∧ i = .int .i64 ((j : Int) - 1) ∧ DivSt A V n M j u qs ∧
  wr.ownsRow w.heap.size 215 1 (.slice (some ⟨g, 0, none⟩) N N) N (u64s u) ∧ wr.ownsRow w.heap.size 215 1 (.slice (some ⟨gq, 0, none⟩) M M) M (u64s qs) ∧
  RowOff wr g av (u64s (limbs V)) ∧ RowOff wr gq av (u64s (limbs V)) ∧ Ext w wr
theorem RowOff.ext {w w' : World} {g : Nat} {a : Option Addr} {cs : List Value} (h : RowOff w g a cs) (x : Ext w w') : RowOff w' g a cs := ⟨h.1.ext x, h.2⟩
theorem RowOff.new {w w' : World} {g : Nat} {a : Option Addr} {cs : List Value} (h : RowOff w g a cs) (hc : 0 < cs.length) (x : Ext w w') : RowOff w' w.heap.size a cs := by
 refine ⟨h.1.ext x, fun b off hb => ?_⟩
 obtain ⟨b', off', h1, h2⟩ := h.1 0 hc
 have := block_lt_of_cell h2
 rw [hb] at h1
 simp only [Option.some.injEq, Addr.mk.injEq, and_true] at h1
 simp only at this
 omega
theorem owns_lt {w : World} {base g n k : Nat} {e : TypeId} {xs : List Value} (h : w.ownsRow base e 1 (.slice (some ⟨g, 0, none⟩) n n) k xs) : g < w.heap.size := (h.lt g rfl).2
theorem owns_grown {w w' : World} {base e g g' n k : Nat} {xs : List Value} (h : w.ownsRow base e 1 (.slice (some ⟨g, 0, none⟩) n n) k xs) (hg : w.grownBy w' (some g')) (hne : g ≠ g') :
  w'.ownsRow base e 1 (.slice (some ⟨g, 0, none⟩) n n) k xs := h.kept hg (Or.inr (by simp [Value.ownBlock, hne]))
set_option maxRecDepth 100000 in
set_option maxHeartbeats 1600000 in
theorem divide_long (va vb : Value) (m n k : Nat) (w : World) (ha : NatV w va m) (hb : NatV w vb n) (sa : nl m ≤ 5000000000000) (hn : nl n = k + 2) (hge : n ≤ m) :
  Calls Tryz.prog 214 #[va, vb] w (RetNat2 w (m / n) (m % n)) := by
 obtain ⟨i0, hi, hz0, hz1, hz2⟩ := info_parts Tryz.info215
 have HI := Lib.hid hi
 have HZ0 := Lib.hid hz0
 have HZ1 := Lib.hid hz1
 have HZ2 := Lib.hid hz2
 clear hi hz0 hz1 hz2
 have hnm : k + 2 ≤ nl m := by rw [← hn]; exact nl_mono hge
 have hc := natCompare_any va vb m n w ha hb (by omega) (by omega)
 obtain ⟨s, hs⟩ : ∃ s, s = sgn ((m : Int) - n) := ⟨_, rfl⟩
 have hs0 : 0 ≤ s := by rw [hs]; exact cmp_ge hge
 rw [← hs] at hc
 have HC := Lib.hid hc
 have HNP : Hid (0 < n) := by
  rcases Nat.eq_zero_or_pos n with h0 | h0
  ·rw [h0, nl_zero] at hn; omega
  ·exact h0
 have HA := Lib.hid ha
 have HB := Lib.hid hb
 have hnorm := Norm.make hn
 obtain ⟨a, ca, rfl, _, hrowa⟩ := ha
 obtain ⟨b, cb, rfl, _, hrow⟩ := hb
 have hlen : (limbs n).length = k + 2 := hn
 have hlenm : (limbs m).length = nl m := rfl
 obtain ⟨bb, ob, rfl, hcb⟩ := hrow.at (j := k + 1) (by omega)
 obtain ⟨b1, hb1⟩ : ∃ b1, b1 = (limbs n).getD (k + 1) 0 := ⟨_, rfl⟩
 have hb1l : b1 < 1000000000 := by rw [hb1]; exact (low_limbs n).getD _
 rw [← hb1] at hcb hnorm
 rw [hlen] at HC HB ⊢
 rw [hlenm] at HC HA ⊢
 obtain ⟨f, hf⟩ : ∃ f, f = 1000000000 / (b1 + 1) := ⟨_, rfl⟩
 rw [← hf] at hnorm
 obtain ⟨L, hL⟩ : ∃ L, L = nl m := ⟨_, rfl⟩
 rw [← hL] at HC HA sa hnm ⊢
 have hfi : (1000000000 : Int) / ((b1 : Int) + 1) = (f : Int) := by rw [hf]; simp
 have hf1 := hnorm.pos
 have hf2 := hnorm.low
 have HNM := Lib.hid hnorm
 have HL := Lib.hid hL
 have HF := Lib.hid hf
 have hd0 : decide (s < 0) = false := by simp; omega
 have hd1 : (((k : Int) + 2) == 1) = false := by simp; omega
 clear hc hrow hrowa hs hlen hlenm hnorm hb1 hL hf hn
 go_enter Tryz.func214, Tryz.ntmps214
 go_wp2_with fail
 refine HC.out.mono ?_
 rintro e w' ⟨rfl, q, rfl⟩
 go_upto_region 7 with fail
 have x2 : Ext w ((w.drewN q).alloc (Obj.cells #[Value.int IntKind.u64 (f : Int)] 215)) := ((Ext.refl w).drewN q).alloc _
 have hfr : NatV ((w.drewN q).alloc (Obj.cells #[Value.int IntKind.u64 (f : Int)] 215)) (.slice (some ⟨w.heap.size, 0, none⟩) 1 1) f := by
  refine ⟨_, 1, by rw [limbs_one (by omega) hf2]; rfl, by rw [limbs_one (by omega) hf2]; simp, ?_⟩
  rw [limbs_one (by omega) hf2]; exact row_one (w.drewN q) f
 have hfc : ((w.drewN q).alloc (Obj.cells #[Value.int IntKind.u64 (f : Int)] 215)).cell? ⟨w.heap.size, 0, none⟩ = some (.int .u64 (f : Int)) := World.cell?_alloc_new (w := w.drewN q) _ _ _
 generalize (w.drewN q).alloc (Obj.cells #[Value.int IntKind.u64 (f : Int)] 215) = W2 at *
 have X2 := Lib.hid x2
 have HFR := Lib.hid hfr
 have HFC := Lib.hid hfc
 clear x2 hfr hfc HC
 go_cut [9, 10] (MadeTwo W2 W2.heap.size (L + 1) (n * f))
 case first =>
  have hmk := fun W : World => run_make_zeros W ((L : Int) + 1) (L + 1) (by omega) (by omega)
  have hmul := fun (W : World) (x : Ext W2 W) => natMul_at _ _ n f W (HB.out.ext (X2.out.trans x)) (HFR.out.ext x) (by rw [HNM.out.len]; omega) (by unfold nl; rw [limbs_one (by omega) hf2]; simp)
  have HM := Lib.hid hmul
  clear hmul
  have hw1 : IntKind.i64.wrap ((L : Int) + 1) = (L : Int) + 1 := IntWalk.i64_in _ (by omega)
  go_region_with (first | (go_at_call 191; refine (HM.out _ ?_).mono ?_; (first | exact (Ext.refl _).drew | exact ((Ext.refl _).alloc _).drew | exact ((Ext.refl _).drew).alloc _); rintro e w3 ⟨kk, cap, rfl, hv, hx⟩))
  all_goals (try go_wp2_with fail)
  all_goals go_meet
  ·exact made_a (by omega) hv hx
  ·exact made_b (by omega) (Nat.mul_pos HNP.out (by omega)) hv hx
 case rest =>
  obtain ⟨g, av, nv, cv, rfl, rfl, hnv, hown, hvr, hx, hg⟩ := hcut
  rw [HNM.out.vlen] at hnv
  subst hnv
  have HO := Lib.hid hown
  have HV := Lib.hid hvr
  have HX := Lib.hid hx
  clear hown hvr hx
  go_wp2_with fail
  refine (natMul_at _ _ m f _ (HA.out.ext (X2.out.trans HX.out)) (HFR.out.ext HX.out) (by rw [← HL.out]; omega) (by unfold nl; rw [limbs_one (by omega) hf2]; simp)).mono ?_
  rintro e w3 ⟨kk, cap, rfl, hv, hx⟩
  obtain ⟨au, cu, e1, _, hru⟩ := hv
  simp only [Value.slice.injEq] at e1
  obtain ⟨rfl, e2, rfl⟩ := e1
  have hlu : (limbs (m * f)).length ≤ L + 1 := by
   have h1 := nl_mul m f
   have h2 : nl f ≤ 1 := by unfold nl; rw [limbs_one (by omega) hf2]; simp
   rw [← HL.out] at h1
   unfold nl at h1 h2; omega
  have ho3 := owns_ext HO.out hx
  have HO3 := Lib.hid ho3
  have HX3 := Lib.hid hx
  have HLU := Lib.hid hlu
  have HE2 := Lib.hid e2
  have HRU := Lib.hid hru
  clear ho3 hx hlu e2 hru
  obtain ⟨M, hM⟩ : ∃ M, M = L + 1 - (k + 2) := ⟨_, rfl⟩
  have hM1 : L + 1 = M + (k + 2) := by omega
  have HMM := Lib.hid hM
  have HM1 := Lib.hid hM1
  have hM2 : M ≤ L := by omega
  clear hM hM1
  go_wp2_with (first
   | (with_reducible refine wpList_copy_zeros rfl (.tmp 49) (.tmp 52) rfl W2.heap.size g (L + 1) kk _ ⟨wc.heap.size, 0, none⟩ (limbs (m * f)) rfl rfl HO3.out HE2.out.symm (by omega) HLU.out HRU.out ?_; intro w4 ho4 hg4; have HO4 := Lib.hid ho4; have HG4 := Lib.hid hg4; clear ho4 hg4; have X4 := Lib.hid ((HX.out.trans HX3.out).grown HG4.out (fun k' hk' => by cases hk'; exact hg)); have HV4 := Lib.hid ((HV.out.ext HX3.out).grown HG4.out))
   | (at_make; refine wpList_make_full _ rfl _ _ 105 rfl W2.heap.size 215 i0 (.int .u64 0) 1 Tryz.underlying105 HI.out HZ0.out HZ1.out .i64 .i64 _ _ M rfl rfl (by have := HMM.out; omega) (by have := HMM.out; omega) (by rw [HZ2.out]; omega) (by unfold maxLen; omega) X4.out.size ?_; intro w5 ho5 hg5; rw [made_u64] at ho5; have HO5 := Lib.hid ho5; have X5 : Hid (Ext w4 w5) := (Ext.refl w4).grown hg5 (fun k' hk' => by cases hk'); clear ho5 hg5))
  have hgq : g ≠ w4.heap.size := by have := owns_lt HO4.out; omega
  have hvlen : 0 < (u64s (limbs (n * f))).length := by rw [length_u64s]; have := HNM.out.vlen; unfold nl at this; omega
  have HV5 := Lib.hid (HV4.out.ext X5.out)
  have HQ5 := Lib.hid (HV4.out.new hvlen X5.out)
  have HU5 := Lib.hid (owns_ext HO4.out X5.out)
  have XX5 := Lib.hid (X4.out.trans X5.out)
  generalize w4.heap.size = gq at *
  clear HO HV HO3 HX3 HRU HV4 HO4 HG4 X4 X5 hvlen
  go_loopw [12] (DivRel W2 (m * f) (n * f) (k + 2) M (L + 1) g gq av) (fun i _ => (intOf i + 1).toNat)
  case atStart =>
   have hu5 := HU5.out
   rw [show L + 1 - (limbs (m * f)).length = M + (k + 2) - nl (m * f) by unfold nl; have := HM1.out; omega] at hu5
   exact ⟨M, _, _, Nat.le_refl _, rfl, DivSt.start HNM.out (by rw [← HL.out]; exact HM1.out), hu5, HO5.out, HV5.out, HQ5.out, XX5.out⟩
  case round =>
   obtain ⟨j, u, qs, hj, rfl, hst, hou, hoq, hvu, hvq, hx⟩ := hrel
   have HS := Lib.hid hst
   have HU := Lib.hid hou
   have HQ := Lib.hid hoq
   have HVU := Lib.hid hvu
   have HVQ := Lib.hid hvq
   have HXR := Lib.hid hx
   clear hst hou hoq hvu hvq hx HV5 HQ5 HU5 XX5 HO5
   rcases j with _ | j
   ·have hdone := HS.out.done (Nat.mul_pos HNP.out (by omega))
    rw [(div_norm (m := m) (n := n) (show 0 < f by omega)).1, (div_norm (m := m) (n := n) (show 0 < f by omega)).2] at hdone
    have hul : u.length = L + 1 := by rw [HS.out.ulen]; exact HM1.out.symm
    have hrowu := Row.of_owns HU.out
    have hrowq := Row.of_owns HQ.out
    have hfc := HXR.out.cell HFC.out
    have hut : val (u.take (k + 2)) = (m % n) * f := by
     rw [← hdone.2]
     have := val_drop_take (u := u) (j := 0) (k := k + 2) (fun i hi => HS.out.zero i hi)
     simpa using this
    have HUT := Lib.hid hut
    have HDN := Lib.hid hdone
    have HRU := Lib.hid hrowu
    have HRQ := Lib.hid hrowq
    have HUL := Lib.hid hul
    clear hdone hul hrowu hrowq hut
    have hrt : Row wr (some ⟨g, 0, none⟩) (u64s (u.take (k + 2))) := by rw [← u64s_take]; exact HRU.out.take _
    have hltk : (u.take (k + 2)).length = k + 2 := by rw [List.length_take, HUL.out]; have := HM1.out; omega
    obtain ⟨X, hX⟩ : ∃ X, X = Value.slice (some ⟨g, 0, none⟩) (trimTo (u.take (k + 2)) (u.take (k + 2)).length) (L + 1) := ⟨_, rfl⟩
    have hXn : NatV wr X ((m % n) * f) := by
     rw [hX]; exact nat_of_trim (HS.out.ulow.take _) hrt HUT.out (by rw [hltk]; have := HM1.out; omega)
    have htr : ∀ W, Ext wr W → Calls Tryz.prog 181 #[.slice (some ⟨g, 0, none⟩) (k + 2) (L + 1)] W fun e w' => e = .returned X ∧ W = w' := fun W x => by
     rw [hX]; exact trim_len _ _ _ _ W hltk (by omega) (by have := HM1.out; omega) (hrt.ext x)
    have hmn : nl ((m % n) * f) ≤ 10000000000000 := by
     have h1 := nl_mul (m % n) f
     have h2 : nl f ≤ 1 := by unfold nl; rw [limbs_one (by omega) hf2]; simp
     have h3 : nl (m % n) ≤ nl m := nl_mono (Nat.mod_le _ _)
     rw [← HL.out] at h3; omega
    have hsh : ∀ W, Ext wr W → Calls Tryz.prog 243 #[X, .int .u64 f] W (RetNatWord W (m % n) 0) := fun W x => by
     have := natShort_any X ((m % n) * f) f W (hXn.ext x) hmn (by omega) hf2
     rw [Nat.mul_div_cancel _ (by omega), Nat.mul_mod_left] at this
     exact this
    have HTR := Lib.hid htr
    have HSH := Lib.hid hsh
    clear htr hsh hX hrt hltk hXn hmn
    have hM3 : M ≤ 9223372036854775807 := by omega
    have hqz : HQ = HQ := rfl
    clear hqz
    go_wp2_with fail
    go_region_with (first
     | (go_at_call 181; refine (HTR.out _ ?_).mono ?_; (exact (Ext.refl _).drew); rintro e w7 ⟨rfl, rfl⟩)
     | (go_at_call 243; refine (HSH.out _ ?_).mono ?_; (exact (Ext.refl _).drew); rintro e w7 ⟨v7, rfl, hv7, hx7⟩))
    all_goals
     have HV7 := Lib.hid hv7
     have HX7 : Hid (Ext wr w7) := ((Ext.refl wr).drew).trans hx7
     clear hv7 hx7
     go_wp2_with fail
     refine (trim_len _ _ _ qs _ HS.out.qlen hM3 (Nat.le_refl _) (HRQ.out.ext HX7.out)).mono ?_
     rintro e w8 ⟨rfl, rfl⟩
     go_wp2_with fail
     go_ret2
     have hqn := nat_of_trim (cap := M) HS.out.qlow (HRQ.out.ext HX7.out) (n := m / n) HDN.out.1 (by rw [HS.out.qlen]; exact Nat.le_refl _)
     exact ⟨_, _, rfl, hqn, HV7.out, (X2.out.trans HXR.out).trans HX7.out⟩
   ·rw [show ((j + 1 : Nat) : Int) - 1 = j by omega]
    have hul : u.length = L + 1 := by rw [HS.out.ulen]; exact HM1.out.symm
    have hbef := HS.out.before (show j < M by omega)
    have hqlt : val ((u.drop j).take (k + 2 + 1)) / (n * f) < 1000000000 := by
     rw [Nat.div_lt_iff_lt_mul (Nat.mul_pos HNP.out (by omega))]; exact hbef
    have hstep := step_core W2.heap.size g (L + 1) j k (L + 1 - j) av cv u (limbs (n * f)) wr HU.out HVU.out hul HS.out.ulow (low_limbs _) HNM.out.vlen (by have := HM1.out; omega) (by omega) (by have := HM1.out; omega) HNM.out.vtop (by rw [val_limbs]; exact hbef)
    rw [val_limbs] at hstep
    obtain ⟨qd, hqd⟩ : ∃ qd, qd = val ((u.drop j).take (k + 2 + 1)) / (n * f) := ⟨_, rfl⟩
    have HQD := Lib.hid hqd
    have HST := Lib.hid hstep
    have hm1 := HM1.out
    have hjj : j + (k + 2) + 1 ≤ L + 1 := by omega
    have hjm : j < M := by omega
    have hcz : L + 1 ≠ j := by omega
    clear hqd hstep hbef hul hm1
    go_wp2_with fail
    rw [show j + (k + 2) + 1 - j = k + 3 by omega]
    refine HST.out.mono ?_
    rintro e w6 ⟨o, rfl, hsd, how, hgr⟩
    rw [← HQD.out]
    have hq6 := owns_grown HQ.out hgr hgq.symm
    have hcq := own_cell hq6 (j := j) (by rw [HS.out.qlen]; omega)
    have hfq := hq6.frozenAt j
    have HQ6 := Lib.hid hq6
    have HU6 := Lib.hid how
    have HGR := Lib.hid hgr
    have HSD := Lib.hid hsd
    clear hq6 how hgr hsd
    go_wp2_with fail
    have hset := own_set j qd HQ6.out (grown_refl w6 (some gq))
    refine ⟨⟨j, o, qs.set j qd, by omega, rfl, ?_, owns_grown HU6.out hset.2 hgq, hset.1, ?_, ?_, ?_⟩, by simp only [intOf]; omega⟩
    ·rw [HQD.out]
     exact HS.out.step hjm (Nat.mul_pos HNP.out (by omega)) (by have := lt_pow_nl (n * f); rw [HNM.out.vlen] at this; exact this) HSD.out hqlt
    ·refine ⟨?_, HVU.out.2⟩
     exact (RowOff.grown ⟨(HVU.out.grown HGR.out).1, HVQ.out.2⟩ hset.2).1
    ·exact RowOff.grown ⟨(HVU.out.grown HGR.out).1, HVQ.out.2⟩ hset.2
    ·have x6 := HXR.out.grown HGR.out (fun k' hk' => by cases hk'; exact hg)
     exact x6.grown hset.2 (fun k' hk' => by cases hk'; exact (owns_block HQ.out).2)
theorem natDivide_any (va vb : Value) (m n : Nat) (w : World) (ha : NatV w va m) (hb : NatV w vb n) (sa : nl m ≤ 5000000000000) (sb : nl n ≤ 5000000000000) (hn : 0 < n) :
  Calls Tryz.prog 214 #[va, vb] w (RetNat2 w (m / n) (m % n)) := by
 rcases Nat.lt_or_ge m n with h | h
 ·rw [Nat.div_eq_of_lt h, Nat.mod_eq_of_lt h]
  exact divide_less va vb m n w ha hb (by omega) (by omega) h
 ·rcases Nat.lt_or_ge n 1000000000 with h2 | h2
  ·exact divide_short va vb m n w ha hb (by omega) hn h2 h
  ·have h3 : 2 ≤ nl n := by
    rcases Nat.lt_or_ge (nl n) 2 with h4 | h4
    ·have h5 := lt_pow_nl n
     have h6 : 1000000000 ^ nl n ≤ 1000000000 ^ 1 := Nat.pow_le_pow_right (by omega) (by omega)
     rw [Nat.pow_one] at h6
     omega
    ·exact h4
   exact divide_long va vb m n (nl n - 2) w ha hb sa (by omega) h
end Go.Proofs.YtpdboaedoimahaaGreatDoor
end
section
namespace Go.Proofs.YtpdboaedoimahaaGreatDoor
open Go.RowKit
theorem small_val {n : Nat} (h : nl n ≤ 2) : n = (limbs n).getD 1 0 * 1000000000 + (limbs n).getD 0 0 := by
 have h1 := val_two (limbs n) 0
 rw [List.take_of_length_le (show (limbs n).length ≤ 0 + 2 from h), val_limbs] at h1
 simp only [List.take_zero, val, Nat.pow_zero, Nat.one_mul, Nat.zero_add] at h1
 omega
set_option maxRecDepth 100000 in
set_option maxHeartbeats 400000 in
theorem natSmall_any (va : Value) (n : Nat) (w : World) (ha : NatV w va n) (h : nl n ≤ 2) :
  Calls Tryz.prog 215 #[va] w fun e w' => e = .returned (.int .u64 (n : Int)) ∧ w = w' := by
 have hs := small_val h
 obtain ⟨a, c, rfl, _, hr⟩ := ha
 have hx := at_any a c (limbs n) 1 w (by unfold nl at h; omega) (by omega) hr
 have hy := at_any a c (limbs n) 0 w (by unfold nl at h; omega) (by omega) hr
 rw [show (1 : Int).toNat = 1 by rfl] at hx
 rw [show (0 : Int).toNat = 0 by rfl] at hy
 have b1 := (low_limbs n).getD 1
 have b0 := (low_limbs n).getD 0
 obtain ⟨x, ex⟩ : ∃ x, x = (limbs n).getD 1 0 := ⟨_, rfl⟩
 obtain ⟨y, ey⟩ : ∃ y, y = (limbs n).getD 0 0 := ⟨_, rfl⟩
 rw [← ex] at hx b1 hs
 rw [← ey] at hy b0 hs
 have HX := Lib.hid hx
 have HY := Lib.hid hy
 have HS := Lib.hid hs
 clear hx hy hs ex ey hr
 go_enter Tryz.func215, Tryz.ntmps215
 go_wp2_with fail
 refine HX.out.mono ?_
 rintro e w' ⟨rfl, rfl⟩
 go_wp2_with fail
 refine HY.out.mono ?_
 rintro e w' ⟨rfl, rfl⟩
 go_wp2_with fail
 go_ret
 exact ⟨ret_int (by have := HS.out; omega), rfl⟩
def GcdRel (w : World) (G S : Nat) (gk : Nat) (a b : Value) (wr : World) : Prop :=
 ∃ m n : Nat, NatV wr a m ∧ NatV wr b n ∧ Nat.gcd m n = G ∧ nl m ≤ S ∧ nl n ≤ S ∧ n = gk ∧ Ext w wr
def GcdRel2 (w : World) (G : Nat) (x y : Value) (wr : World) : Prop :=
 ∃ m n : Nat, x = .int .u64 (m : Int) ∧ y = .int .u64 (n : Int) ∧ m < 1000000000000000000 ∧ n < 1000000000000000000 ∧ Nat.gcd m n = G ∧ ∃ q, wr = w.drewN q
theorem lt_of_nl2 {n : Nat} (h : nl n ≤ 2) : n < 1000000000000000000 := by
 have h1 := lt_pow_nl n
 have h2 : 1000000000 ^ nl n ≤ 1000000000 ^ 2 := Nat.pow_le_pow_right (by omega) h
 rw [show (1000000000 : Nat) ^ 2 = 1000000000000000000 by rfl] at h2
 omega
theorem gcd_step (m n : Nat) : Nat.gcd n (m % n) = Nat.gcd m n := by rw [Nat.gcd_comm m n, Nat.gcd_rec n m, Nat.gcd_comm]
theorem row_two (w1 : World) (r s : Nat) : Row (w1.alloc (Obj.cells #[Value.int IntKind.u64 (r : Int), Value.int IntKind.u64 (s : Int)] 215)) (some ⟨w1.heap.size, 0, none⟩) (u64s [r, s]) := by
 intro j hj
 have : j < 2 := by simpa [u64s] using hj
 match j, this with
 | 0, _ => exact ⟨_, _, rfl, by simp [u64s]⟩
 | 1, _ => exact ⟨_, _, rfl, by simp [u64s]⟩
set_option maxRecDepth 100000 in
set_option maxHeartbeats 1600000 in
theorem natGcd_any (va vb : Value) (m n : Nat) (w : World) (ha : NatV w va m) (hb : NatV w vb n) (sa : nl m ≤ 5000000000000) (sb : nl n ≤ 5000000000000) :
  Calls Tryz.prog 182 #[va, vb] w (RetNat w (Nat.gcd m n)) := by
 have HA := Lib.hid ha
 have HB := Lib.hid hb
 clear ha hb
 go_enter Tryz.func182, Tryz.ntmps182
 go_wp2_with fail
 go_loopg [0, 1] n (GcdRel w (Nat.gcd m n) 5000000000000)
 case atStart => exact ⟨m, n, HA.out, HB.out, rfl, sa, sb, rfl, Ext.refl w⟩
 case round =>
  obtain ⟨m', n', hm, hn, hg, s1, s2, rfl, hx⟩ := hrel
  have HM := Lib.hid hm
  have HN := Lib.hid hn
  have HG := Lib.hid hg
  have HX := Lib.hid hx
  obtain ⟨a, ca, rfl, _, ra⟩ := hm
  obtain ⟨b, cb, rfl, _, rb⟩ := hn
  have l1 : (limbs m').length ≤ 5000000000000 := s1
  have l2 : (limbs n').length ≤ 5000000000000 := s2
  clear hg hx ra rb
  by_cases h2 : 2 < (limbs n').length
  ·have hn0 : 0 < n' := by
    rcases Nat.eq_zero_or_pos n' with h0 | h0
    ·rw [h0, limbs_zero] at h2; simp at h2
    ·exact h0
   have hdiv := Lib.hid (natDivide_any _ _ m' n' wr HM.out HN.out s1 s2 hn0)
   go_wp2_with fail
   refine hdiv.out.mono ?_
   rintro e w1 ⟨u, v, rfl, hu, hv, hx1⟩
   have HV := Lib.hid hv
   have HX1 := Lib.hid hx1
   clear hu hv hx1
   go_wp2_with fail
   have hlt := Nat.mod_lt m' hn0
   go_roundg (m' % n')
   case measure => exact hlt
   case rel => exact ⟨n', m' % n', HN.out.ext HX1.out, HV.out, by rw [gcd_step]; exact HG.out, s2, Nat.le_trans (nl_mono (Nat.le_of_lt hlt)) s2, rfl, HX.out.trans HX1.out⟩
  ·by_cases h0 : n' = 0
   ·have hl0 : (limbs n').length = 0 := by rw [h0, limbs_zero]; rfl
    rw [hl0]
    have hg0 : m' = Nat.gcd m n := by rw [← HG.out, h0, Nat.gcd_zero_right]
    have HG0 := Lib.hid hg0
    clear hg0 hl0 h2 h0
    go_wp2_with fail
    go_ret
    exact ⟨_, rfl, by rw [← HG0.out]; exact HM.out, HX.out⟩
   ·have hn0 : 0 < n' := by omega
    have hl0 : 0 < (limbs n').length := List.length_pos_iff.2 (fun e => h0 (limbs_eq_nil.1 e))
    have hl1 : (((limbs n').length : Int) == 0) = false := beq_eq_false_iff_ne.2 (by omega)
    have hn1 : nl n' ≤ 2 := by unfold nl; omega
    by_cases h3 : 2 < (limbs m').length
    case' neg =>
     have hm1 : nl m' ≤ 2 := by unfold nl; omega
     have hb1 := lt_of_nl2 hm1
     have hb2 := lt_of_nl2 hn1
     obtain ⟨x, hx⟩ : ∃ x, x = m' := ⟨_, rfl⟩
     obtain ⟨y, hy⟩ : ∃ y, y = n' := ⟨_, rfl⟩
     have HG2 : Hid (Nat.gcd x y = Nat.gcd m n) := by rw [hx, hy]; exact HG.out
     have hs1 : Hid (Calls Tryz.prog 215 #[.slice a (limbs m').length ca] wr fun e w' => e = .returned (.int .u64 (x : Int)) ∧ wr = w') := by rw [hx]; exact natSmall_any _ m' wr HM.out hm1
     have hs2 : Hid (Calls Tryz.prog 215 #[.slice b (limbs n').length cb] wr fun e w' => e = .returned (.int .u64 (y : Int)) ∧ wr = w') := by rw [hy]; exact natSmall_any _ n' wr HN.out hn1
     rw [← hx] at hb1
     rw [← hy] at hb2
     obtain ⟨W1, rfl⟩ : ∃ W1 : World, W1 = wr := ⟨_, rfl⟩
     have XX : Hid (Ext w W1) := HX.out
     clear hx hy hm1 hn1
     go_wp2_with fail
     refine hs1.out.mono ?_
     rintro e w' ⟨rfl, rfl⟩
     go_wp2_with fail
     refine hs2.out.mono ?_
     rintro e w' ⟨rfl, rfl⟩
     go_wp2_with fail
    case' pos =>
     have hdiv := Lib.hid (natDivide_any _ _ m' n' wr HM.out HN.out s1 s2 hn0)
     go_wp2_with fail
     refine hdiv.out.mono ?_
     rintro e W1 ⟨u, v, rfl, hu, hv, hx1⟩
     have HV := Lib.hid hv
     have HX1 := Lib.hid hx1
     have hlt := Nat.mod_lt m' hn0
     have hb1 := lt_of_nl2 hn1
     have hb2 : m' % n' < 1000000000000000000 := by omega
     obtain ⟨x, hx⟩ : ∃ x, x = n' := ⟨_, rfl⟩
     obtain ⟨y, hy⟩ : ∃ y, y = m' % n' := ⟨_, rfl⟩
     have HG2 : Hid (Nat.gcd x y = Nat.gcd m n) := by rw [hx, hy, gcd_step]; exact HG.out
     have hs1 : Hid (Calls Tryz.prog 215 #[.slice b (limbs n').length cb] W1 fun e w' => e = .returned (.int .u64 (x : Int)) ∧ W1 = w') := by rw [hx]; exact natSmall_any _ n' W1 (HN.out.ext HX1.out) hn1
     have hs2 : Hid (Calls Tryz.prog 215 #[v] W1 fun e w' => e = .returned (.int .u64 (y : Int)) ∧ W1 = w') := by rw [hy]; exact natSmall_any _ (m' % n') W1 HV.out (Nat.le_trans (nl_mono (Nat.le_of_lt hlt)) hn1)
     rw [← hx] at hb1
     rw [← hy] at hb2
     have XX : Hid (Ext w W1) := HX.out.trans HX1.out
     clear hx hy hu hv hx1 hlt hn1
     go_wp2_with fail
     refine hs1.out.mono ?_
     rintro e w' ⟨rfl, rfl⟩
     go_wp2_with fail
     refine hs2.out.mono ?_
     rintro e w' ⟨rfl, rfl⟩
     go_wp2_with fail
    all_goals
     go_loopw [9, 10] (GcdRel2 W1 (Nat.gcd m n)) (fun _ y _ => (intOf y).toNat)
     case atStart => exact ⟨x, y, rfl, rfl, hb1, hb2, HG2.out, 0, rfl⟩
     case round =>
      obtain ⟨p, q, rfl, rfl, hp, hq, hgg, d, rfl⟩ := hrel
      have HGG := Lib.hid hgg
      clear hgg
      by_cases hq0 : q = 0
      ·subst hq0
       have hpg : p = Nat.gcd m n := by rw [← HGG.out, Nat.gcd_zero_right]
       have HPG := Lib.hid hpg
       clear hpg
       go_wp2_with fail
       rw [show (p : Int) % 1000000000 = ((p % 1000000000 : Nat) : Int) by omega, show (p : Int) / 1000000000 = ((p / 1000000000 : Nat) : Int) by omega]
       have hrow := row_two (W1.drewN d) (p % 1000000000) (p / 1000000000)
       refine (trim_len _ _ _ [p % 1000000000, p / 1000000000] _ rfl (by simp) (by simp) hrow).mono ?_
       rintro e w' ⟨rfl, rfl⟩
       have hnat := nat_of_trim (cap := 2) (Low.cons (by omega) (Low.cons (by omega) Low.nil)) hrow (n := p) (by simp [val]; omega) (by simp)
       have HNAT := Lib.hid hnat
       clear hnat hrow
       go_wp2_with fail
       go_ret
       refine ⟨_, rfl, ?_, (XX.out.drewN d).alloc _⟩
       rw [← HPG.out]; exact HNAT.out
      ·have hq1 : ((q : Int) != 0) = true := by rw [bne_iff_ne]; omega
       have hq2 : ((q : Int) == 0) = false := beq_eq_false_iff_ne.2 (by omega)
       go_wp2_with fail
       go_quiet (fail)
       go_wp2_with fail
       have hlt := Nat.mod_lt p (show 0 < q by omega)
       rw [show (p : Int) % q = ((p % q : Nat) : Int) by simp, World.drewN_drewN]
       exact ⟨⟨q, p % q, rfl, rfl, hq, by omega, by rw [gcd_step]; exact HGG.out, _, rfl⟩, by simp only [intOf]; omega⟩
end Go.Proofs.YtpdboaedoimahaaGreatDoor
end
section
namespace Go.Proofs.YtpdboaedoimahaaGreatDoor
open Go.RowKit
def NumV (w : World) (v : Value) (z : Int) : Prop := ∃ a n c, v = .agg #[.bool (decide (z < 0)), .slice a n c] ∧ NatV w (.slice a n c) z.natAbs
theorem NumV.ext {w w' : World} {v : Value} {z : Int} (h : NumV w v z) (x : Ext w w') : NumV w' v z := by
 obtain ⟨a, n, c, h1, h2⟩ := h; exact ⟨a, n, c, h1, h2.ext x⟩
def RetNum (w : World) (z : Int) (e : Ending) (w' : World) : Prop := ∃ v, e = .returned v ∧ NumV w' v z ∧ Ext w w'
def sgnd (neg : Bool) (n : Nat) : Int := if neg then -(n : Int) else n
theorem sgnd_natAbs (neg : Bool) (n : Nat) : (sgnd neg n).natAbs = n := by unfold sgnd; split <;> omega
theorem sgnd_neg (neg : Bool) (n : Nat) : decide (sgnd neg n < 0) = (neg && decide (0 < n)) := by
 unfold sgnd; cases neg <;> simp <;> omega
theorem sgnd_self (z : Int) : sgnd (decide (z < 0)) z.natAbs = z := by
 unfold sgnd; by_cases h : z < 0 <;> simp [h] <;> omega
theorem num_of {w : World} {s : Value} {n : Nat} {b neg : Bool} (hb : b = (neg && decide (0 < n))) (hs : NatV w s n) : NumV w (.agg #[.bool b, s]) (sgnd neg n) := by
 obtain ⟨a, c, rfl, h2⟩ := id hs
 exact ⟨a, _, c, by rw [sgnd_neg, hb], by rw [sgnd_natAbs]; exact hs⟩
theorem num_of' {w : World} {s : Value} {z : Int} {b : Bool} (hb : b = decide (z < 0)) (hs : NatV w s z.natAbs) : NumV w (.agg #[.bool b, s]) z := by
 obtain ⟨a, c, rfl, h2⟩ := id hs
 exact ⟨a, _, c, by rw [hb], hs⟩
theorem len_pos {n : Nat} : 0 < (limbs n).length ↔ 0 < n := by
 constructor
 ·intro h; rcases Nat.eq_zero_or_pos n with h0 | h0
  ·rw [h0, limbs_zero] at h; simp at h
  ·exact h0
 ·intro h; exact List.length_pos_iff.2 (fun e => by have := limbs_eq_nil.1 e; omega)
theorem grown_setCell (w : World) (a : Addr) (v : Value) : w.grownBy (w.setCell a v) (some a.block) :=
 ⟨rfl, rfl, rfl, by simp [World.setCell], fun k _ hk => Below.heap_setCell _ _ _ _ (fun e => hk (by rw [e]))⟩
def NoInts (w : World) (g : Nat) : Prop := ∃ (cs : Array Value) (t : TypeId) (fr : Nat × Nat), w.heap[g]? = some (.cells cs t fr) ∧ ∀ (j : Nat) (k : IntKind) (z : Int), cs[j]? ≠ some (Value.int k z)
theorem NatV.grown {w w' : World} {s : Value} {n g : Nat} (h : NatV w s n) (hg : NoInts w g) (hw : w.grownBy w' (some g)) : NatV w' s n := by
 obtain ⟨a, c, h1, h2, h3⟩ := h
 refine ⟨a, c, h1, h2, fun j hj => ?_⟩
 obtain ⟨b, off, e1, e2⟩ := h3 j hj
 refine ⟨b, off, e1, hw.cell e2 ?_⟩
 simp only [ne_eq, Option.some.injEq]
 intro e
 obtain ⟨cs, t, fr, hb, hno⟩ := hg
 rw [← e] at hb
 rw [cell_of_row _ _ _ _ _ _ hb] at e2
 have hj' : j < (limbs n).length := by simpa using hj
 refine hno _ .u64 ((limbs n).getD j 0 : Nat) (e2.trans ?_)
 simp [u64s, hj']
theorem blk2_set {w : World} {g : Nat} {t : TypeId} {o0 o1 v0 v1 : Value} (h : w.heap[g]? = some (.cells #[o0, o1] t (0, 0))) :
  ((w.setCell ⟨g, 0, none⟩ v0).setCell ⟨g, 1, none⟩ v1).heap[g]? = some (.cells #[v0, v1] t (0, 0)) := by
 rw [heap_setCell_same _ _ _ _ _ _ (heap_setCell_same _ _ _ _ _ _ h)]; rfl
theorem grown2 (w : World) (g : Nat) (v0 v1 : Value) : w.grownBy ((w.setCell ⟨g, 0, none⟩ v0).setCell ⟨g, 1, none⟩ v1) (some g) :=
 grown_trans (grown_setCell _ _ _) (grown_setCell _ _ _)
theorem ext2 {a w : World} {g : Nat} (h : Ext a w) (hg : a.heap.size ≤ g) (v0 v1 : Value) : Ext a ((w.setCell ⟨g, 0, none⟩ v0).setCell ⟨g, 1, none⟩ v1) :=
 (h.setCell (p := ⟨g, 0, none⟩) hg v0).setCell (p := ⟨g, 1, none⟩) hg v1
theorem noInts2 {w : World} {g : Nat} {t : TypeId} {b : Bool} {a : Option Addr} {n c : Nat} (h : w.heap[g]? = some (.cells #[.bool b, .slice a n c] t (0, 0))) : NoInts w g := by
 refine ⟨_, _, _, h, fun j k z e => ?_⟩
 match j with
 | 0 => simp at e
 | 1 => simp at e
 | j + 2 => simp at e
theorem Tryz.size107 : (Tryz.prog.info? 107).map (·.size) = some 2 := by kernel_rfl
theorem ret_num {fn : Func} {p : Tmp} {R : Ending → World → Prop} {a : Act} {w : World} {g : Nat} {v0 v1 : Value} (h : fn.results = #[.cell p 107])
  (hp : a.tmps.getD p undef = .pointer (some ⟨g, 0, none⟩)) (hg : w.heap[g]? = some (.cells #[v0, v1] 107 (0, 0))) (hd : a.defers = []) (hR : R (.returned (.agg #[v0, v1])) w) :
  bodyPost Tryz.prog fn R .ret a w :=
 ⟨hd, _, results_cell_row h a.tmps w g _ _ _ _ hp hg Tryz.underlying107 rfl Tryz.size107, hR⟩
set_option maxRecDepth 100000 in
set_option maxHeartbeats 400000 in
theorem number_any (neg : Bool) (s : Value) (n : Nat) (w : World) (h : NatV w s n) (hn : nl n ≤ 100000000000000) :
  Calls Tryz.prog 180 #[.bool neg, s] w (RetNum w (sgnd neg n)) := by
 have H := Lib.hid h
 obtain ⟨a, c, rfl, _, _⟩ := h
 have hl : (limbs n).length ≤ 100000000000000 := hn
 by_cases hp : 0 < (limbs n).length
 ·have hd : decide (0 < ((limbs n).length : Int)) = true := by simp; omega
  have hp' := len_pos.1 hp
  cases neg
  ·go_enter Tryz.func180, Tryz.ntmps180
   go_wp2_with fail
   refine bodyPost_ret (v := .agg #[.bool false, .slice a (limbs n).length c]) (by simp [results, Tryz.results180, go_sem]) rfl ⟨_, rfl, num_of rfl (H.out.ext ((Ext.refl w).alloc _)), (Ext.refl w).alloc _⟩
  ·go_enter Tryz.func180, Tryz.ntmps180
   go_wp2_with fail
   refine bodyPost_ret (v := .agg #[.bool true, .slice a (limbs n).length c]) (by simp [results, Tryz.results180, go_sem]) rfl ⟨_, rfl, num_of (by simp [hp']) (H.out.ext ((Ext.refl w).alloc _)), (Ext.refl w).alloc _⟩
 ·have hd : decide (0 < ((limbs n).length : Int)) = false := by simp only [decide_eq_false_iff_not]; omega
  have hp' : ¬ 0 < n := fun h => hp (len_pos.2 h)
  cases neg
  ·go_enter Tryz.func180, Tryz.ntmps180
   go_wp2_with fail
   refine bodyPost_ret (v := .agg #[.bool false, .slice a (limbs n).length c]) (by simp [results, Tryz.results180, go_sem]) rfl ⟨_, rfl, num_of rfl (H.out.ext ((Ext.refl w).alloc _)), (Ext.refl w).alloc _⟩
  ·go_enter Tryz.func180, Tryz.ntmps180
   go_wp2_with fail
   refine bodyPost_ret (v := .agg #[.bool false, .slice a (limbs n).length c]) (by simp [results, Tryz.results180, go_sem]) rfl ⟨_, rfl, num_of (by simp [hp']) (H.out.ext ((Ext.refl w).alloc _)), (Ext.refl w).alloc _⟩
set_option maxRecDepth 100000 in
set_option maxHeartbeats 400000 in
theorem numSign_any (v : Value) (z : Int) (w : World) (h : NumV w v z) (hn : nl z.natAbs ≤ 100000000000000) :
  Calls Tryz.prog 184 #[v] w fun e w' => e = .returned (.int .i64 (sgn z)) ∧ Ext w w' := by
 obtain ⟨a, n, c, rfl, hnat⟩ := h
 obtain ⟨a', c', e1, _, _⟩ := hnat
 simp only [Value.slice.injEq] at e1
 obtain ⟨rfl, rfl, rfl⟩ := e1
 have hl : (limbs z.natAbs).length ≤ 100000000000000 := hn
 rcases Int.lt_trichotomy z 0 with h | h | h
 ·rw [sgn_neg h]
  have hd : decide (z < 0) = true := by simp [h]
  rw [hd]
  clear hd
  go_enter Tryz.func184, Tryz.ntmps184
  go_wp2_with fail
  go_ret
  exact ⟨rfl, (Ext.refl w).alloc _⟩
 ·subst h
  rw [show (limbs (Int.natAbs 0)).length = 0 by simp [limbs_zero]]
  rw [sgn_zero, show decide ((0 : Int) < 0) = false by rfl]
  go_enter Tryz.func184, Tryz.ntmps184
  go_wp2_with fail
  go_ret
  exact ⟨rfl, (Ext.refl w).alloc _⟩
 ·rw [sgn_pos h]
  have hd : decide (z < 0) = false := by simp; omega
  rw [hd]
  clear hd
  have hp : 0 < (limbs z.natAbs).length := len_pos.2 (by omega)
  go_enter Tryz.func184, Tryz.ntmps184
  go_wp2_with fail
  go_ret
  exact ⟨rfl, (Ext.refl w).alloc _⟩
set_option maxRecDepth 100000 in
set_option maxHeartbeats 400000 in
theorem numNeg_any (v : Value) (z : Int) (w : World) (h : NumV w v z) (hn : nl z.natAbs ≤ 100000000000000) :
  Calls Tryz.prog 192 #[v] w (RetNum w (-z)) := by
 obtain ⟨a, n, c, rfl, hs⟩ := h
 have hnum := number_any (!decide (z < 0)) (.slice a n c) z.natAbs ((w.alloc (.cells #[.bool (decide (z < 0)), .slice a n c] 107)).alloc (.cells #[.bool false, .slice none 0 0] 107)) (hs.ext (((Ext.refl w).alloc _).alloc _)) hn
 have HN := Lib.hid hnum
 clear hnum
 go_enter Tryz.func192, Tryz.ntmps192
 go_wp2_with fail
 refine HN.out.mono ?_
 rintro e w1 ⟨v1, rfl, ⟨a1, n1, c1, rfl, hs1⟩, hx1⟩
 have HS1 := Lib.hid hs1
 have HX1 := Lib.hid hx1
 have hblk : w1.heap[w.heap.size + 1]? = some (.cells #[.bool false, .slice none 0 0] 107 (0, 0)) := by
  have := Below.block hx1 (w.heap.size + 1) (by simp)
  rw [this]; exact heap_alloc2_new _ _ _
 have hc0 : w1.cell? ⟨w.heap.size + 1, 0, none⟩ = some (.bool false) := by rw [cell_of_row _ _ _ _ _ _ hblk]; rfl
 have hc1 : w1.cell? ⟨w.heap.size + 1, 1, none⟩ = some (.slice none 0 0) := by rw [cell_of_row _ _ _ _ _ _ hblk]; rfl
 have hf0 := frozen_of_row _ _ 0 _ _ hblk
 have hf1 := frozen_of_row _ _ 1 _ _ hblk
 clear hs1 hx1
 have HBL := Lib.hid hblk
 clear hblk
 go_wp2_with fail
 refine ret_num rfl rfl (blk2_set HBL.out) rfl ⟨_, rfl, ?_, ext2 ((((Ext.refl w).alloc _).alloc _).trans HX1.out) (by omega) _ _⟩
 have hz : sgnd (!decide (z < 0)) z.natAbs = -z := by
  unfold sgnd; by_cases h : z < 0 <;> simp [h] <;> omega
 have := HS1.out
 rw [hz] at this ⊢
 exact num_of' rfl (this.grown (noInts2 HBL.out) (grown2 _ _ _ _))
end Go.Proofs.YtpdboaedoimahaaGreatDoor
end
section
namespace Go.Proofs.YtpdboaedoimahaaGreatDoor
open Go.RowKit
theorem box3 (w : World) (A B C : Obj) : Ext w (((w.alloc A).alloc B).alloc C) ∧ (((w.alloc A).alloc B).alloc C).heap[w.heap.size]? = some A ∧
  (((w.alloc A).alloc B).alloc C).heap[w.heap.size + 1]? = some B ∧ (((w.alloc A).alloc B).alloc C).heap[w.heap.size + 1 + 1]? = some C := by
 refine ⟨(((Ext.refl w).alloc _).alloc _).alloc _, ?_, ?_, ?_⟩
 ·rw [heap_alloc_old _ _ (by simp; omega)]; exact heap_alloc2_old _ _ _
 ·rw [heap_alloc_old _ _ (by simp)]; exact heap_alloc2_new _ _ _
 ·have := heap_alloc_new ((w.alloc A).alloc B) C
  simpa using this
theorem Ext.block {w w' : World} (h : Ext w w') {g : Nat} {o : Obj} (hg : w.heap[g]? = some o) : w'.heap[g]? = some o := by
 rw [Below.block h g (lt_of_block hg)]; exact hg
theorem keep2 {w : World} {g b o : Nat} {v0 v1 x : Value} (h : w.cell? ⟨b, o, none⟩ = some x) (hne : b ≠ g) : ((w.setCell ⟨g, 0, none⟩ v0).setCell ⟨g, 1, none⟩ v1).cell? ⟨b, o, none⟩ = some x :=
 (grown2 w g v0 v1).cell h (by simp; exact hne)
theorem cell2_0 {w : World} {g : Nat} {x y : Value} {t : TypeId} (h : w.heap[g]? = some (.cells #[x, y] t (0, 0))) : w.cell? ⟨g, 0, none⟩ = some x := by rw [cell_of_row _ _ _ _ _ _ h]; rfl
theorem cell2_1 {w : World} {g : Nat} {x y : Value} {t : TypeId} (h : w.heap[g]? = some (.cells #[x, y] t (0, 0))) : w.cell? ⟨g, 1, none⟩ = some y := by rw [cell_of_row _ _ _ _ _ _ h]; rfl
theorem sgnd_mul (y z : Int) : sgnd (!(decide (y < 0) == decide (z < 0))) (y.natAbs * z.natAbs) = y * z := by
 unfold sgnd
 have e : ((y.natAbs * z.natAbs : Nat) : Int) = (y.natAbs : Int) * z.natAbs := Int.natCast_mul _ _
 rw [e]
 by_cases hy : y < 0 <;> by_cases hz : z < 0 <;> simp [hy, hz]
 ·rw [show (y.natAbs : Int) = -y by omega, show (z.natAbs : Int) = -z by omega, Int.neg_mul_neg]
 ·rw [show (y.natAbs : Int) = -y by omega, show (z.natAbs : Int) = z by omega, Int.neg_mul, Int.neg_neg]
 ·rw [show (y.natAbs : Int) = y by omega, show (z.natAbs : Int) = -z by omega, Int.mul_neg, Int.neg_neg]
 ·rw [show (y.natAbs : Int) = y by omega, show (z.natAbs : Int) = z by omega]
theorem sgnd_add {y z : Int} (hs : decide (y < 0) = decide (z < 0)) : sgnd (decide (y < 0)) (y.natAbs + z.natAbs) = y + z := by
 unfold sgnd
 by_cases hy : y < 0 <;> by_cases hz : z < 0 <;> simp [hy, hz] at hs ⊢ <;> omega
theorem sgnd_sub1 {y z : Int} (hs : decide (y < 0) ≠ decide (z < 0)) (h : z.natAbs ≤ y.natAbs) : sgnd (decide (y < 0)) (y.natAbs - z.natAbs) = y + z := by
 unfold sgnd
 by_cases hy : y < 0 <;> by_cases hz : z < 0 <;> simp [hy, hz] at hs ⊢ <;> omega
theorem sgnd_sub2 {y z : Int} (hs : decide (y < 0) ≠ decide (z < 0)) (h : y.natAbs < z.natAbs) : sgnd (decide (z < 0)) (z.natAbs - y.natAbs) = y + z := by
 unfold sgnd
 by_cases hy : y < 0 <;> by_cases hz : z < 0 <;> simp [hy, hz] at hs ⊢ <;> omega
set_option maxRecDepth 100000 in
set_option maxHeartbeats 1600000 in
theorem numMul_any (u v : Value) (y z : Int) (w : World) (hu : NumV w u y) (hv : NumV w v z) (sy : nl y.natAbs ≤ 5000000000000) (sz : nl z.natAbs ≤ 5000000000000) :
  Calls Tryz.prog 153 #[u, v] w (RetNum w (y * z)) := by
 obtain ⟨a, n, c, rfl, hy⟩ := hu
 obtain ⟨a', n', c', rfl, hz⟩ := hv
 have HY := Lib.hid hy
 have HZ := Lib.hid hz
 clear hy hz
 obtain ⟨p, hp⟩ : ∃ p, p = decide (y < 0) := ⟨_, rfl⟩
 obtain ⟨q, hq⟩ : ∃ q, q = decide (z < 0) := ⟨_, rfl⟩
 rw [← hp, ← hq]
 have HP := Lib.hid hp
 have HQ := Lib.hid hq
 have HEQ : Hid (sgnd (!(p == q)) (y.natAbs * z.natAbs) = y * z) := by rw [hp, hq]; exact sgnd_mul y z
 have HSZ : Hid (nl (y.natAbs * z.natAbs) ≤ 100000000000000) := by have := nl_mul y.natAbs z.natAbs; unfold Hid; omega
 clear hp hq
 go_enter Tryz.func153, Tryz.ntmps153
 go_wp2_with fail
 have hb := box3 w (.cells #[.bool p, .slice a n c] 107) (.cells #[.bool q, .slice a' n' c'] 107) (.cells #[.bool false, .slice none 0 0] 107)
 generalize ((w.alloc (.cells #[.bool p, .slice a n c] 107)).alloc (.cells #[.bool q, .slice a' n' c'] 107)).alloc (.cells #[.bool false, .slice none 0 0] 107) = W at *
 obtain ⟨x0, b0, b1, b2⟩ := hb
 have X0 := Lib.hid x0
 have B2 := Lib.hid b2
 have c0 := cell2_0 b0
 have c1 := cell2_1 b0
 have c2 := cell2_0 b1
 have c3 := cell2_1 b1
 clear x0 b0 b1 b2
 have HM := Lib.hid (fun (W' : World) (x : Ext W W') => natMul_any _ _ _ _ W' (HY.out.ext (X0.out.trans x)) (HZ.out.ext (X0.out.trans x)) (by omega) (by omega))
 go_region_held3 (fun w' => w'.cell? ⟨w.heap.size, 0, none⟩ = some (.bool p) ∧ w'.cell? ⟨w.heap.size, 1, none⟩ = some (.slice a n c) ∧ w'.cell? ⟨w.heap.size + 1, 0, none⟩ = some (.bool q) ∧ w'.cell? ⟨w.heap.size + 1, 1, none⟩ = some (.slice a' n' c')) (first | exact ⟨keep2 k1_0 (by omega), keep2 k1_1 (by omega), keep2 k1_2 (by omega), keep2 k1_3 (by omega)⟩ | go_keep)
  (first
   | (go_at_call 191; refine (HM.out _ (Ext.refl _).drew).mono ?_; rintro e w1 ⟨v1, rfl, hv1, hx0⟩; have k0_0 := hx0.cell (p := ⟨w.heap.size, 0, none⟩) c0; have k0_1 := hx0.cell (p := ⟨w.heap.size, 1, none⟩) c1; have k0_2 := hx0.cell (p := ⟨w.heap.size + 1, 0, none⟩) c2; have k0_3 := hx0.cell (p := ⟨w.heap.size + 1, 1, none⟩) c3; have HV1 := Lib.hid hv1; have HX1 := Lib.hid hx0; have O2 := Lib.hid (HX1.out.block (g := w.heap.size + 1 + 1) B2.out); clear hv1; clear hx0)
   | (go_at_call 180; refine (number_any _ _ _ _ HV1.out HSZ.out).mono ?_; rintro e w2 ⟨v2, rfl, ⟨a2, n2, c2', rfl, hs2⟩, hx1⟩; have k1_0 := hx1.cell (p := ⟨w.heap.size, 0, none⟩) k0_0; have k1_1 := hx1.cell (p := ⟨w.heap.size, 1, none⟩) k0_1; have k1_2 := hx1.cell (p := ⟨w.heap.size + 1, 0, none⟩) k0_2; have k1_3 := hx1.cell (p := ⟨w.heap.size + 1, 1, none⟩) k0_3; have HS2 := Lib.hid hs2; have HX2 := Lib.hid hx1; have BB := Lib.hid (HX2.out.block O2.out); have d0 := cell2_0 BB.out; have d1 := cell2_1 BB.out; have f0 := frozen_of_row _ _ 0 _ _ BB.out; have f1 := frozen_of_row _ _ 1 _ _ BB.out; clear hs2; clear hx1 k0_0 k0_1 k0_2 k0_3))
 go_wp2_with fail
 refine ret_num rfl rfl (blk2_set BB.out) rfl ⟨_, rfl, ?_, ext2 ((X0.out.trans ((Ext.refl _).drew.trans HX1.out)).trans HX2.out) (by omega) _ _⟩
 have hs := HS2.out.grown (noInts2 BB.out) (grown2 _ _ (.bool (decide (sgnd (!(p == q)) (y.natAbs * z.natAbs) < 0))) (.slice a2 n2 c2'))
 rw [show sgnd (!(p == q)) (y.natAbs * z.natAbs) = y * z from HEQ.out] at hs ⊢
 exact num_of' rfl hs
set_option maxRecDepth 100000 in
set_option maxHeartbeats 1600000 in
theorem numAdd_same (u v : Value) (y z : Int) (w : World) (hu : NumV w u y) (hv : NumV w v z) (sy : nl y.natAbs ≤ 5000000000000) (sz : nl z.natAbs ≤ 5000000000000) (hs : decide (y < 0) = decide (z < 0)) :
  Calls Tryz.prog 155 #[u, v] w (RetNum w (y + z)) := by
 obtain ⟨a, n, c, rfl, hy⟩ := hu
 obtain ⟨a', n', c', rfl, hz⟩ := hv
 have HY := Lib.hid hy
 have HZ := Lib.hid hz
 clear hy hz
 obtain ⟨p, hp⟩ : ∃ p, p = decide (y < 0) := ⟨_, rfl⟩
 obtain ⟨q, hq⟩ : ∃ q, q = decide (z < 0) := ⟨_, rfl⟩
 rw [← hp, ← hq]
 have HP := Lib.hid hp
 have HQ := Lib.hid hq
 have HEQ : Hid (sgnd p (y.natAbs + z.natAbs) = y + z) := by rw [hp]; exact sgnd_add hs
 have HSZ : Hid (nl (y.natAbs + z.natAbs) ≤ 100000000000000) := by have := nl_add y.natAbs z.natAbs; unfold Hid; omega
 have hpq : (p == q) = true := by rw [hp, hq, hs]; simp
 clear hp hq
 go_enter Tryz.func155, Tryz.ntmps155
 go_wp2_with fail
 have hb := box3 w (.cells #[.bool p, .slice a n c] 107) (.cells #[.bool q, .slice a' n' c'] 107) (.cells #[.bool false, .slice none 0 0] 107)
 generalize ((w.alloc (.cells #[.bool p, .slice a n c] 107)).alloc (.cells #[.bool q, .slice a' n' c'] 107)).alloc (.cells #[.bool false, .slice none 0 0] 107) = W at *
 obtain ⟨x0, b0, b1, b2⟩ := hb
 have X0 := Lib.hid x0
 have B2 := Lib.hid b2
 have c0 := cell2_0 b0
 have c1 := cell2_1 b0
 have c2 := cell2_0 b1
 have c3 := cell2_1 b1
 clear x0 b0 b1 b2
 have HM := Lib.hid (fun (W' : World) (x : Ext W W') => natAdd_any _ _ _ _ W' (HY.out.ext (X0.out.trans x)) (HZ.out.ext (X0.out.trans x)) (by omega) (by omega))
 go_region_held3 (fun w' => w'.cell? ⟨w.heap.size, 0, none⟩ = some (.bool p) ∧ w'.cell? ⟨w.heap.size, 1, none⟩ = some (.slice a n c) ∧ w'.cell? ⟨w.heap.size + 1, 0, none⟩ = some (.bool q) ∧ w'.cell? ⟨w.heap.size + 1, 1, none⟩ = some (.slice a' n' c')) (first | exact ⟨keep2 k1_0 (by omega), keep2 k1_1 (by omega), keep2 k1_2 (by omega), keep2 k1_3 (by omega)⟩ | go_keep)
  (first
   | (go_at_call 194; refine (HM.out _ (Ext.refl _).drew).mono ?_; rintro e w1 ⟨v1, rfl, hv1, hx0⟩; have k0_0 := hx0.cell (p := ⟨w.heap.size, 0, none⟩) c0; have k0_1 := hx0.cell (p := ⟨w.heap.size, 1, none⟩) c1; have k0_2 := hx0.cell (p := ⟨w.heap.size + 1, 0, none⟩) c2; have k0_3 := hx0.cell (p := ⟨w.heap.size + 1, 1, none⟩) c3; have HV1 := Lib.hid hv1; have HX1 := Lib.hid hx0; have O2 := Lib.hid (HX1.out.block (g := w.heap.size + 1 + 1) B2.out); clear hv1; clear hx0)
   | (go_at_call 180; refine (number_any _ _ _ _ HV1.out HSZ.out).mono ?_; rintro e w2 ⟨v2, rfl, ⟨a2, n2, c2', rfl, hs2⟩, hx1⟩; have k1_0 := hx1.cell (p := ⟨w.heap.size, 0, none⟩) k0_0; have k1_1 := hx1.cell (p := ⟨w.heap.size, 1, none⟩) k0_1; have k1_2 := hx1.cell (p := ⟨w.heap.size + 1, 0, none⟩) k0_2; have k1_3 := hx1.cell (p := ⟨w.heap.size + 1, 1, none⟩) k0_3; have HS2 := Lib.hid hs2; have HX2 := Lib.hid hx1; have BB := Lib.hid (HX2.out.block O2.out); have d0 := cell2_0 BB.out; have d1 := cell2_1 BB.out; have f0 := frozen_of_row _ _ 0 _ _ BB.out; have f1 := frozen_of_row _ _ 1 _ _ BB.out; clear hs2; clear hx1 k0_0 k0_1 k0_2 k0_3))
 go_wp2_with fail
 refine ret_num rfl rfl (blk2_set BB.out) rfl ⟨_, rfl, ?_, ext2 ((X0.out.trans ((Ext.refl _).drew.trans HX1.out)).trans HX2.out) (by omega) _ _⟩
 have hs := HS2.out.grown (noInts2 BB.out) (grown2 _ _ (.bool (decide (sgnd p (y.natAbs + z.natAbs) < 0))) (.slice a2 n2 c2'))
 rw [show sgnd p (y.natAbs + z.natAbs) = y + z from HEQ.out] at hs ⊢
 exact num_of' rfl hs
set_option maxRecDepth 100000 in
set_option maxHeartbeats 1600000 in
theorem numAdd_ge (u v : Value) (y z : Int) (w : World) (hu : NumV w u y) (hv : NumV w v z) (sy : nl y.natAbs ≤ 5000000000000) (sz : nl z.natAbs ≤ 5000000000000) (hs : decide (y < 0) ≠ decide (z < 0)) (hle : z.natAbs ≤ y.natAbs) :
  Calls Tryz.prog 155 #[u, v] w (RetNum w (y + z)) := by
 obtain ⟨a, n, c, rfl, hy⟩ := hu
 obtain ⟨a', n', c', rfl, hz⟩ := hv
 have HY := Lib.hid hy
 have HZ := Lib.hid hz
 clear hy hz
 obtain ⟨p, hp⟩ : ∃ p, p = decide (y < 0) := ⟨_, rfl⟩
 obtain ⟨q, hq⟩ : ∃ q, q = decide (z < 0) := ⟨_, rfl⟩
 rw [← hp, ← hq]
 have HP := Lib.hid hp
 have HQ := Lib.hid hq
 have HEQ : Hid (sgnd p (y.natAbs - z.natAbs) = y + z) := by rw [hp]; exact sgnd_sub1 hs hle
 have HSZ : Hid (nl (y.natAbs - z.natAbs) ≤ 100000000000000) := by have := nl_mono (Nat.sub_le y.natAbs z.natAbs); unfold Hid; omega
 have hpq : (p == q) = false := by rw [hp, hq]; simpa using hs
 have hcmp : Hid (0 ≤ sgn ((y.natAbs : Int) - z.natAbs)) := by unfold Hid; exact cmp_ge hle
 clear hp hq
 go_enter Tryz.func155, Tryz.ntmps155
 go_wp2_with fail
 have hb := box3 w (.cells #[.bool p, .slice a n c] 107) (.cells #[.bool q, .slice a' n' c'] 107) (.cells #[.bool false, .slice none 0 0] 107)
 generalize ((w.alloc (.cells #[.bool p, .slice a n c] 107)).alloc (.cells #[.bool q, .slice a' n' c'] 107)).alloc (.cells #[.bool false, .slice none 0 0] 107) = W0 at *
 refine (natCompare_any _ _ y.natAbs z.natAbs W0 (HY.out.ext hb.1) (HZ.out.ext hb.1) (by omega) (by omega)).mono ?_
 rintro e W ⟨rfl, dd, hW⟩
 have hb0 : Ext W0 W := by rw [hW]; exact (Ext.refl W0).drewN dd
 obtain ⟨x0, b0, b1, b2⟩ := hb
 have X0 := Lib.hid (x0.trans hb0)
 have B2 := Lib.hid (hb0.block b2)
 have c0 := cell2_0 (hb0.block b0)
 have c1 := cell2_1 (hb0.block b0)
 have c2 := cell2_0 (hb0.block b1)
 have c3 := cell2_1 (hb0.block b1)
 obtain ⟨cmp, hcm⟩ : ∃ cmp, cmp = sgn ((y.natAbs : Int) - z.natAbs) := ⟨_, rfl⟩
 rw [← hcm]
 have hcmp2 := hcmp.out
 rw [← hcm] at hcmp2
 clear x0 b0 b1 b2 hW hb0 hcmp hcm
 go_wp2_with fail
 have HM := Lib.hid (fun (W' : World) (x : Ext W W') => natSub_any _ _ _ _ W' (HY.out.ext (X0.out.trans x)) (HZ.out.ext (X0.out.trans x)) (by omega) hle)
 go_region_held3 (fun w' => w'.cell? ⟨w.heap.size, 0, none⟩ = some (.bool p) ∧ w'.cell? ⟨w.heap.size, 1, none⟩ = some (.slice a n c) ∧ w'.cell? ⟨w.heap.size + 1, 0, none⟩ = some (.bool q) ∧ w'.cell? ⟨w.heap.size + 1, 1, none⟩ = some (.slice a' n' c')) (first | exact ⟨keep2 k1_0 (by omega), keep2 k1_1 (by omega), keep2 k1_2 (by omega), keep2 k1_3 (by omega)⟩ | go_keep)
  (first
   | (go_at_call 196; refine (HM.out _ (Ext.refl _).drew).mono ?_; rintro e w1 ⟨v1, rfl, hv1, hx0⟩; have k0_0 := hx0.cell (p := ⟨w.heap.size, 0, none⟩) c0; have k0_1 := hx0.cell (p := ⟨w.heap.size, 1, none⟩) c1; have k0_2 := hx0.cell (p := ⟨w.heap.size + 1, 0, none⟩) c2; have k0_3 := hx0.cell (p := ⟨w.heap.size + 1, 1, none⟩) c3; have HV1 := Lib.hid hv1; have HX1 := Lib.hid hx0; have O2 := Lib.hid (HX1.out.block (g := w.heap.size + 1 + 1) B2.out); clear hv1; clear hx0)
   | (go_at_call 180; refine (number_any _ _ _ _ HV1.out HSZ.out).mono ?_; rintro e w2 ⟨v2, rfl, ⟨a2, n2, c2', rfl, hs2⟩, hx1⟩; have k1_0 := hx1.cell (p := ⟨w.heap.size, 0, none⟩) k0_0; have k1_1 := hx1.cell (p := ⟨w.heap.size, 1, none⟩) k0_1; have k1_2 := hx1.cell (p := ⟨w.heap.size + 1, 0, none⟩) k0_2; have k1_3 := hx1.cell (p := ⟨w.heap.size + 1, 1, none⟩) k0_3; have HS2 := Lib.hid hs2; have HX2 := Lib.hid hx1; have BB := Lib.hid (HX2.out.block O2.out); have d0 := cell2_0 BB.out; have d1 := cell2_1 BB.out; have f0 := frozen_of_row _ _ 0 _ _ BB.out; have f1 := frozen_of_row _ _ 1 _ _ BB.out; clear hs2; clear hx1 k0_0 k0_1 k0_2 k0_3))
 go_wp2_with fail
 refine ret_num rfl rfl (blk2_set BB.out) rfl ⟨_, rfl, ?_, ext2 ((X0.out.trans ((Ext.refl _).drew.trans HX1.out)).trans HX2.out) (by omega) _ _⟩
 have hs := HS2.out.grown (noInts2 BB.out) (grown2 _ _ (.bool (decide (sgnd p (y.natAbs - z.natAbs) < 0))) (.slice a2 n2 c2'))
 rw [show sgnd p (y.natAbs - z.natAbs) = y + z from HEQ.out] at hs ⊢
 exact num_of' rfl hs
set_option maxRecDepth 100000 in
set_option maxHeartbeats 1600000 in
theorem numAdd_lt (u v : Value) (y z : Int) (w : World) (hu : NumV w u y) (hv : NumV w v z) (sy : nl y.natAbs ≤ 5000000000000) (sz : nl z.natAbs ≤ 5000000000000) (hs : decide (y < 0) ≠ decide (z < 0)) (hlt : y.natAbs < z.natAbs) :
  Calls Tryz.prog 155 #[u, v] w (RetNum w (y + z)) := by
 obtain ⟨a, n, c, rfl, hy⟩ := hu
 obtain ⟨a', n', c', rfl, hz⟩ := hv
 have HY := Lib.hid hy
 have HZ := Lib.hid hz
 clear hy hz
 obtain ⟨p, hp⟩ : ∃ p, p = decide (y < 0) := ⟨_, rfl⟩
 obtain ⟨q, hq⟩ : ∃ q, q = decide (z < 0) := ⟨_, rfl⟩
 rw [← hp, ← hq]
 have HP := Lib.hid hp
 have HQ := Lib.hid hq
 have HEQ : Hid (sgnd q (z.natAbs - y.natAbs) = y + z) := by rw [hq]; exact sgnd_sub2 hs hlt
 have HSZ : Hid (nl (z.natAbs - y.natAbs) ≤ 100000000000000) := by have := nl_mono (Nat.sub_le z.natAbs y.natAbs); unfold Hid; omega
 have hpq : (p == q) = false := by rw [hp, hq]; simpa using hs
 have hle : y.natAbs ≤ z.natAbs := by omega
 have hcmp : Hid (sgn ((y.natAbs : Int) - z.natAbs) < 0) := by unfold Hid; rw [sgn_neg (by omega)]; omega
 clear hp hq
 go_enter Tryz.func155, Tryz.ntmps155
 go_wp2_with fail
 have hb := box3 w (.cells #[.bool p, .slice a n c] 107) (.cells #[.bool q, .slice a' n' c'] 107) (.cells #[.bool false, .slice none 0 0] 107)
 generalize ((w.alloc (.cells #[.bool p, .slice a n c] 107)).alloc (.cells #[.bool q, .slice a' n' c'] 107)).alloc (.cells #[.bool false, .slice none 0 0] 107) = W0 at *
 refine (natCompare_any _ _ y.natAbs z.natAbs W0 (HY.out.ext hb.1) (HZ.out.ext hb.1) (by omega) (by omega)).mono ?_
 rintro e W ⟨rfl, dd, hW⟩
 have hb0 : Ext W0 W := by rw [hW]; exact (Ext.refl W0).drewN dd
 obtain ⟨x0, b0, b1, b2⟩ := hb
 have X0 := Lib.hid (x0.trans hb0)
 have B2 := Lib.hid (hb0.block b2)
 have c0 := cell2_0 (hb0.block b0)
 have c1 := cell2_1 (hb0.block b0)
 have c2 := cell2_0 (hb0.block b1)
 have c3 := cell2_1 (hb0.block b1)
 obtain ⟨cmp, hcm⟩ : ∃ cmp, cmp = sgn ((y.natAbs : Int) - z.natAbs) := ⟨_, rfl⟩
 rw [← hcm]
 have hcmp2 := hcmp.out
 rw [← hcm] at hcmp2
 clear x0 b0 b1 b2 hW hb0 hcmp hcm
 go_wp2_with fail
 have HM := Lib.hid (fun (W' : World) (x : Ext W W') => natSub_any _ _ _ _ W' (HZ.out.ext (X0.out.trans x)) (HY.out.ext (X0.out.trans x)) (by omega) hle)
 go_region_held3 (fun w' => w'.cell? ⟨w.heap.size, 0, none⟩ = some (.bool p) ∧ w'.cell? ⟨w.heap.size, 1, none⟩ = some (.slice a n c) ∧ w'.cell? ⟨w.heap.size + 1, 0, none⟩ = some (.bool q) ∧ w'.cell? ⟨w.heap.size + 1, 1, none⟩ = some (.slice a' n' c')) (first | exact ⟨keep2 k1_0 (by omega), keep2 k1_1 (by omega), keep2 k1_2 (by omega), keep2 k1_3 (by omega)⟩ | go_keep)
  (first
   | (go_at_call 196; refine (HM.out _ (Ext.refl _).drew).mono ?_; rintro e w1 ⟨v1, rfl, hv1, hx0⟩; have k0_0 := hx0.cell (p := ⟨w.heap.size, 0, none⟩) c0; have k0_1 := hx0.cell (p := ⟨w.heap.size, 1, none⟩) c1; have k0_2 := hx0.cell (p := ⟨w.heap.size + 1, 0, none⟩) c2; have k0_3 := hx0.cell (p := ⟨w.heap.size + 1, 1, none⟩) c3; have HV1 := Lib.hid hv1; have HX1 := Lib.hid hx0; have O2 := Lib.hid (HX1.out.block (g := w.heap.size + 1 + 1) B2.out); clear hv1; clear hx0)
   | (go_at_call 180; refine (number_any _ _ _ _ HV1.out HSZ.out).mono ?_; rintro e w2 ⟨v2, rfl, ⟨a2, n2, c2', rfl, hs2⟩, hx1⟩; have k1_0 := hx1.cell (p := ⟨w.heap.size, 0, none⟩) k0_0; have k1_1 := hx1.cell (p := ⟨w.heap.size, 1, none⟩) k0_1; have k1_2 := hx1.cell (p := ⟨w.heap.size + 1, 0, none⟩) k0_2; have k1_3 := hx1.cell (p := ⟨w.heap.size + 1, 1, none⟩) k0_3; have HS2 := Lib.hid hs2; have HX2 := Lib.hid hx1; have BB := Lib.hid (HX2.out.block O2.out); have d0 := cell2_0 BB.out; have d1 := cell2_1 BB.out; have f0 := frozen_of_row _ _ 0 _ _ BB.out; have f1 := frozen_of_row _ _ 1 _ _ BB.out; clear hs2; clear hx1 k0_0 k0_1 k0_2 k0_3))
 go_wp2_with fail
 refine ret_num rfl rfl (blk2_set BB.out) rfl ⟨_, rfl, ?_, ext2 ((X0.out.trans ((Ext.refl _).drew.trans HX1.out)).trans HX2.out) (by omega) _ _⟩
 have hs := HS2.out.grown (noInts2 BB.out) (grown2 _ _ (.bool (decide (sgnd q (z.natAbs - y.natAbs) < 0))) (.slice a2 n2 c2'))
 rw [show sgnd q (z.natAbs - y.natAbs) = y + z from HEQ.out] at hs ⊢
 exact num_of' rfl hs
theorem numAdd_any (u v : Value) (y z : Int) (w : World) (hu : NumV w u y) (hv : NumV w v z) (sy : nl y.natAbs ≤ 5000000000000) (sz : nl z.natAbs ≤ 5000000000000) :
  Calls Tryz.prog 155 #[u, v] w (RetNum w (y + z)) := by
 by_cases hs : decide (y < 0) = decide (z < 0)
 ·exact numAdd_same u v y z w hu hv sy sz hs
 ·rcases Nat.lt_or_ge y.natAbs z.natAbs with h | h
  ·exact numAdd_lt u v y z w hu hv sy sz hs h
  ·exact numAdd_ge u v y z w hu hv sy sz hs h
end Go.Proofs.YtpdboaedoimahaaGreatDoor
end
section
namespace Go.Proofs.YtpdboaedoimahaaGreatDoor
open Go.RowKit
set_option maxRecDepth 100000 in
set_option maxHeartbeats 1600000 in
theorem numSub_any (u v : Value) (y z : Int) (w : World) (hu : NumV w u y) (hv : NumV w v z) (sy : nl y.natAbs ≤ 5000000000000) (sz : nl z.natAbs ≤ 5000000000000) :
  Calls Tryz.prog 183 #[u, v] w (RetNum w (y - z)) := by
 have HU := Lib.hid hu
 have HV := Lib.hid hv
 obtain ⟨a, n, c, rfl, hy⟩ := hu
 obtain ⟨a', n', c', rfl, hz⟩ := hv
 clear hy hz
 obtain ⟨p, hp⟩ : ∃ p, p = decide (y < 0) := ⟨_, rfl⟩
 obtain ⟨q, hq⟩ : ∃ q, q = decide (z < 0) := ⟨_, rfl⟩
 rw [← hp, ← hq]
 rw [← hp] at HU
 rw [← hq] at HV
 clear hp hq
 go_enter Tryz.func183, Tryz.ntmps183
 go_wp2_with fail
 have hb := box3 w (.cells #[.bool p, .slice a n c] 107) (.cells #[.bool q, .slice a' n' c'] 107) (.cells #[.bool false, .slice none 0 0] 107)
 generalize ((w.alloc (.cells #[.bool p, .slice a n c] 107)).alloc (.cells #[.bool q, .slice a' n' c'] 107)).alloc (.cells #[.bool false, .slice none 0 0] 107) = W at *
 obtain ⟨x0, b0, b1, b2⟩ := hb
 have X0 := Lib.hid x0
 have B2 := Lib.hid b2
 have c0 := cell2_0 b0
 have c1 := cell2_1 b0
 have c2 := cell2_0 b1
 have c3 := cell2_1 b1
 clear x0 b0 b1 b2
 have HM := Lib.hid (fun (W' : World) (x : Ext W W') => numNeg_any _ z W' (HV.out.ext (X0.out.trans x)) (by omega))
 go_region_held3 (fun w' => w'.cell? ⟨w.heap.size, 0, none⟩ = some (.bool p) ∧ w'.cell? ⟨w.heap.size, 1, none⟩ = some (.slice a n c) ∧ w'.cell? ⟨w.heap.size + 1, 0, none⟩ = some (.bool q) ∧ w'.cell? ⟨w.heap.size + 1, 1, none⟩ = some (.slice a' n' c')) (first | exact ⟨keep2 k1_0 (by omega), keep2 k1_1 (by omega), keep2 k1_2 (by omega), keep2 k1_3 (by omega)⟩ | go_keep)
  (first
   | (go_at_call 192; refine (HM.out _ (Ext.refl _).drew).mono ?_; rintro e w1 ⟨v1, rfl, hv1, hx0⟩; have k0_0 := hx0.cell (p := ⟨w.heap.size, 0, none⟩) c0; have k0_1 := hx0.cell (p := ⟨w.heap.size, 1, none⟩) c1; have k0_2 := hx0.cell (p := ⟨w.heap.size + 1, 0, none⟩) c2; have k0_3 := hx0.cell (p := ⟨w.heap.size + 1, 1, none⟩) c3; have HV1 := Lib.hid hv1; have HX1 := Lib.hid hx0; have O2 := Lib.hid (HX1.out.block (g := w.heap.size + 1 + 1) B2.out); clear hv1; clear hx0)
   | (go_at_call 155; refine (numAdd_any _ _ y (-z) _ (HU.out.ext (X0.out.trans ((Ext.refl _).drew.trans HX1.out))) HV1.out sy (by rw [Int.natAbs_neg]; exact sz)).mono ?_; rintro e w2 ⟨v2, rfl, ⟨a2, n2, c2', rfl, hs2⟩, hx1⟩; have k1_0 := hx1.cell (p := ⟨w.heap.size, 0, none⟩) k0_0; have k1_1 := hx1.cell (p := ⟨w.heap.size, 1, none⟩) k0_1; have k1_2 := hx1.cell (p := ⟨w.heap.size + 1, 0, none⟩) k0_2; have k1_3 := hx1.cell (p := ⟨w.heap.size + 1, 1, none⟩) k0_3; have HS2 := Lib.hid hs2; have HX2 := Lib.hid hx1; have BB := Lib.hid (HX2.out.block O2.out); have d0 := cell2_0 BB.out; have d1 := cell2_1 BB.out; have f0 := frozen_of_row _ _ 0 _ _ BB.out; have f1 := frozen_of_row _ _ 1 _ _ BB.out; clear hs2; clear hx1 k0_0 k0_1 k0_2 k0_3))
 go_wp2_with fail
 refine ret_num rfl rfl (blk2_set BB.out) rfl ⟨_, rfl, num_of' rfl (HS2.out.grown (noInts2 BB.out) (grown2 _ _ _ _)), ext2 ((X0.out.trans ((Ext.refl _).drew.trans HX1.out)).trans HX2.out) (by omega) _ _⟩
set_option maxRecDepth 100000 in
set_option maxHeartbeats 1600000 in
theorem numCompare_any (u v : Value) (y z : Int) (w : World) (hu : NumV w u y) (hv : NumV w v z) (sy : nl y.natAbs ≤ 5000000000000) (sz : nl z.natAbs ≤ 5000000000000) :
  Calls Tryz.prog 129 #[u, v] w fun e w' => e = .returned (.int .i64 (sgn (y - z))) ∧ Ext w w' := by
 have HU := Lib.hid hu
 have HV := Lib.hid hv
 obtain ⟨a, n, c, rfl, hy⟩ := hu
 obtain ⟨a', n', c', rfl, hz⟩ := hv
 clear hy hz
 obtain ⟨p, hp⟩ : ∃ p, p = decide (y < 0) := ⟨_, rfl⟩
 obtain ⟨q, hq⟩ : ∃ q, q = decide (z < 0) := ⟨_, rfl⟩
 rw [← hp, ← hq]
 rw [← hp] at HU
 rw [← hq] at HV
 clear hp hq
 have HS : Hid (nl (y - z).natAbs ≤ 100000000000000) := by
  have h1 := nl_add y.natAbs z.natAbs
  have h2 : nl (y - z).natAbs ≤ nl (y.natAbs + z.natAbs) := nl_mono (by omega)
  unfold Hid; omega
 go_enter Tryz.func129, Tryz.ntmps129
 go_wp2_with fail
 have x0 : Ext w ((w.alloc (.cells #[.bool p, .slice a n c] 107)).alloc (.cells #[.bool q, .slice a' n' c'] 107)) := ((Ext.refl w).alloc _).alloc _
 have X0 := Lib.hid x0
 refine (numSub_any _ _ y z _ (HU.out.ext x0) (HV.out.ext x0) sy sz).mono ?_
 rintro e w1 ⟨v1, rfl, hv1, hx1⟩
 have HV1 := Lib.hid hv1
 have HX1 := Lib.hid hx1
 clear x0 hv1 hx1
 go_wp2_with fail
 refine (numSign_any _ _ _ HV1.out HS.out).mono ?_
 rintro e w2 ⟨rfl, hx2⟩
 have HX2 := Lib.hid hx2
 clear hx2
 go_wp2_with fail
 go_ret
 exact ⟨rfl, (X0.out.trans HX1.out).trans HX2.out⟩
set_option maxRecDepth 100000 in
set_option maxHeartbeats 1600000 in
theorem numGcd_any (u v : Value) (y z : Int) (w : World) (hu : NumV w u y) (hv : NumV w v z) (sy : nl y.natAbs ≤ 5000000000000) (sz : nl z.natAbs ≤ 5000000000000) :
  Calls Tryz.prog 128 #[u, v] w (RetNum w (Nat.gcd y.natAbs z.natAbs)) := by
 obtain ⟨a, n, c, rfl, hy⟩ := hu
 obtain ⟨a', n', c', rfl, hz⟩ := hv
 have HY := Lib.hid hy
 have HZ := Lib.hid hz
 clear hy hz
 obtain ⟨p, hp⟩ : ∃ p, p = decide (y < 0) := ⟨_, rfl⟩
 obtain ⟨q, hq⟩ : ∃ q, q = decide (z < 0) := ⟨_, rfl⟩
 rw [← hp, ← hq]
 clear hp hq
 have HSZ : Hid (nl (Nat.gcd y.natAbs z.natAbs) ≤ 100000000000000) := by
  unfold Hid
  rcases Nat.eq_zero_or_pos y.natAbs with h0 | h0
  ·rw [h0, Nat.gcd_zero_left]; omega
  ·have := nl_mono (Nat.gcd_le_left z.natAbs h0); omega
 go_enter Tryz.func128, Tryz.ntmps128
 go_wp2_with fail
 have hb := box3 w (.cells #[.bool p, .slice a n c] 107) (.cells #[.bool q, .slice a' n' c'] 107) (.cells #[.bool false, .slice none 0 0] 107)
 generalize ((w.alloc (.cells #[.bool p, .slice a n c] 107)).alloc (.cells #[.bool q, .slice a' n' c'] 107)).alloc (.cells #[.bool false, .slice none 0 0] 107) = W at *
 obtain ⟨x0, b0, b1, b2⟩ := hb
 have X0 := Lib.hid x0
 have B2 := Lib.hid b2
 have c0 := cell2_0 b0
 have c1 := cell2_1 b0
 have c2 := cell2_0 b1
 have c3 := cell2_1 b1
 clear x0 b0 b1 b2
 refine (natGcd_any _ _ _ _ W (HY.out.ext X0.out) (HZ.out.ext X0.out) (by omega) (by omega)).mono ?_
 rintro e w1 ⟨v1, rfl, hv1, hx1⟩
 have HV1 := Lib.hid hv1
 have HX1 := Lib.hid hx1
 have O2 := Lib.hid (hx1.block B2.out)
 clear hv1 hx1
 go_wp2_with fail
 refine (number_any _ _ _ _ HV1.out HSZ.out).mono ?_
 rintro e w2 ⟨v2, rfl, ⟨a2, n2, c2', rfl, hs2⟩, hx1⟩
 have HX2 := Lib.hid hx1
 have HS2 := Lib.hid hs2
 have BB := Lib.hid (HX2.out.block O2.out)
 have d0 := cell2_0 BB.out
 have d1 := cell2_1 BB.out
 have f0 := frozen_of_row _ _ 0 _ _ BB.out
 have f1 := frozen_of_row _ _ 1 _ _ BB.out
 clear hs2 hx1
 go_wp2_with fail
 refine ret_num rfl rfl (blk2_set BB.out) rfl ⟨_, rfl, ?_, ext2 ((X0.out.trans HX1.out).trans HX2.out) (by omega) _ _⟩
 exact num_of' rfl (HS2.out.grown (noInts2 BB.out) (grown2 _ _ _ _))
end Go.Proofs.YtpdboaedoimahaaGreatDoor
end
section
namespace Go.Proofs.YtpdboaedoimahaaGreatDoor
open Go.RowKit
end Go.Proofs.YtpdboaedoimahaaGreatDoor
end
section
namespace Go.Proofs.YtpdboaedoimahaaGreatDoor
open Go.RowKit
theorem row_three (w1 : World) (r s t : Nat) : Row (w1.alloc (Obj.cells #[Value.int IntKind.u64 (r : Int), Value.int IntKind.u64 (s : Int), Value.int IntKind.u64 (t : Int)] 215)) (some ⟨w1.heap.size, 0, none⟩) (u64s [r, s, t]) := by
 intro j hj
 have : j < 3 := by simpa [u64s] using hj
 match j, this with
 | 0, _ => exact ⟨_, _, rfl, by simp [u64s]⟩
 | 1, _ => exact ⟨_, _, rfl, by simp [u64s]⟩
 | 2, _ => exact ⟨_, _, rfl, by simp [u64s]⟩
theorem u64_of_neg {n : Int} (h : n < 0) (h2 : -9223372036854775808 ≤ n) : IntKind.u64.wrap (-(IntKind.u64.wrap n)) = ((n.natAbs : Nat) : Int) := by
 have e : ∀ n : Int, IntKind.u64.wrap n = n % 18446744073709551616 := fun n => by simp [IntKind.wrap, IntKind.signed, IntKind.bits]
 rw [e, e]; omega
theorem u64_of_pos {n : Int} (h : 0 ≤ n) (h2 : n ≤ 9223372036854775807) : IntKind.u64.wrap n = ((n.natAbs : Nat) : Int) := by
 have e : ∀ n : Int, IntKind.u64.wrap n = n % 18446744073709551616 := fun n => by simp [IntKind.wrap, IntKind.signed, IntKind.bits]
 rw [e]; omega
set_option maxRecDepth 100000 in
set_option maxHeartbeats 800000 in
theorem numOf_any (n : Int) (w : World) (h1 : -9223372036854775808 ≤ n) (h2 : n ≤ 9223372036854775807) :
  Calls Tryz.prog 130 #[.int .i64 n] w (RetNum w n) := by
 obtain ⟨m, hm⟩ : ∃ m, m = n.natAbs := ⟨_, rfl⟩
 have hm1 : m ≤ 9223372036854775808 := by omega
 have HM := Lib.hid hm
 by_cases hn : n < 0
 ·have hw := u64_of_neg hn h1
  rw [← hm] at hw
  clear hm
  go_enter Tryz.func130, Tryz.ntmps130
  go_wp2_with fail
  rw [show (m : Int) % 1000000000 = ((m % 1000000000 : Nat) : Int) by omega, show (m : Int) / 1000000000 % 1000000000 = ((m / 1000000000 % 1000000000 : Nat) : Int) by omega, show (m : Int) / 1000000000 / 1000000000 = ((m / 1000000000 / 1000000000 : Nat) : Int) by omega]
  have hrow := row_three (w.alloc (Obj.cells #[Value.bool false, Value.slice none 0 0] 107)) (m % 1000000000) (m / 1000000000 % 1000000000) (m / 1000000000 / 1000000000)
  have hsz : (w.alloc (Obj.cells #[Value.bool false, Value.slice none 0 0] 107)).heap.size = w.heap.size + 1 := by simp
  rw [hsz] at hrow
  have hx : Ext w ((w.alloc (Obj.cells #[Value.bool false, Value.slice none 0 0] 107)).alloc (Obj.cells #[Value.int IntKind.u64 ((m % 1000000000 : Nat) : Int), Value.int IntKind.u64 ((m / 1000000000 % 1000000000 : Nat) : Int), Value.int IntKind.u64 ((m / 1000000000 / 1000000000 : Nat) : Int)] 215)) := ((Ext.refl w).alloc _).alloc _
  have hblk : ((w.alloc (Obj.cells #[Value.bool false, Value.slice none 0 0] 107)).alloc (Obj.cells #[Value.int IntKind.u64 ((m % 1000000000 : Nat) : Int), Value.int IntKind.u64 ((m / 1000000000 % 1000000000 : Nat) : Int), Value.int IntKind.u64 ((m / 1000000000 / 1000000000 : Nat) : Int)] 215)).heap[w.heap.size]? = some (Obj.cells #[Value.bool false, Value.slice none 0 0] 107 (0, 0)) := heap_alloc2_old _ _ _
  generalize (w.alloc (Obj.cells #[Value.bool false, Value.slice none 0 0] 107)).alloc (Obj.cells #[Value.int IntKind.u64 ((m % 1000000000 : Nat) : Int), Value.int IntKind.u64 ((m / 1000000000 % 1000000000 : Nat) : Int), Value.int IntKind.u64 ((m / 1000000000 / 1000000000 : Nat) : Int)] 215) = W at *
  refine (trim_len _ _ _ [m % 1000000000, m / 1000000000 % 1000000000, m / 1000000000 / 1000000000] _ rfl (by simp) (by simp) hrow).mono ?_
  rintro e w' ⟨rfl, rfl⟩
  have HNAT := Lib.hid (nat_of_trim (cap := 3) (Low.cons (by omega) (Low.cons (by omega) (Low.cons (by omega) Low.nil))) hrow (n := m) (by simp [val]; omega) (by simp))
  have HX := Lib.hid hx
  have HBL := Lib.hid hblk
  clear hrow hx hblk hsz
  go_wp2_with fail
  refine (number_any _ _ m _ HNAT.out (by have := nl_le_of_lt (n := m) (k := 3) (by omega); omega)).mono ?_
  rintro e w2 ⟨v2, rfl, ⟨a2, n2, c2', rfl, hs2⟩, hx2⟩
  have HX2 := Lib.hid hx2
  have HS2 := Lib.hid hs2
  have BB := Lib.hid (HX2.out.block HBL.out)
  have d0 := cell2_0 BB.out
  have d1 := cell2_1 BB.out
  have f0 := frozen_of_row _ _ 0 _ _ BB.out
  have f1 := frozen_of_row _ _ 1 _ _ BB.out
  clear hs2 hx2
  go_wp2_with fail
  refine ret_num rfl rfl (blk2_set BB.out) rfl ⟨_, rfl, ?_, ext2 (HX.out.trans HX2.out) (Nat.le_refl _) _ _⟩
  have hs := HS2.out.grown (noInts2 BB.out) (grown2 _ _ (.bool (decide (sgnd true m < 0))) (.slice a2 n2 c2'))
  rw [show sgnd true m = n by unfold sgnd; have := HM.out; simp; omega] at hs ⊢
  exact num_of' rfl hs
 ·have hw := u64_of_pos (show 0 ≤ n by omega) h2
  rw [← hm] at hw
  clear hm
  go_enter Tryz.func130, Tryz.ntmps130
  go_wp2_with fail
  rw [show (m : Int) % 1000000000 = ((m % 1000000000 : Nat) : Int) by omega, show (m : Int) / 1000000000 % 1000000000 = ((m / 1000000000 % 1000000000 : Nat) : Int) by omega, show (m : Int) / 1000000000 / 1000000000 = ((m / 1000000000 / 1000000000 : Nat) : Int) by omega]
  have hrow := row_three (w.alloc (Obj.cells #[Value.bool false, Value.slice none 0 0] 107)) (m % 1000000000) (m / 1000000000 % 1000000000) (m / 1000000000 / 1000000000)
  have hsz : (w.alloc (Obj.cells #[Value.bool false, Value.slice none 0 0] 107)).heap.size = w.heap.size + 1 := by simp
  rw [hsz] at hrow
  have hx : Ext w ((w.alloc (Obj.cells #[Value.bool false, Value.slice none 0 0] 107)).alloc (Obj.cells #[Value.int IntKind.u64 ((m % 1000000000 : Nat) : Int), Value.int IntKind.u64 ((m / 1000000000 % 1000000000 : Nat) : Int), Value.int IntKind.u64 ((m / 1000000000 / 1000000000 : Nat) : Int)] 215)) := ((Ext.refl w).alloc _).alloc _
  have hblk : ((w.alloc (Obj.cells #[Value.bool false, Value.slice none 0 0] 107)).alloc (Obj.cells #[Value.int IntKind.u64 ((m % 1000000000 : Nat) : Int), Value.int IntKind.u64 ((m / 1000000000 % 1000000000 : Nat) : Int), Value.int IntKind.u64 ((m / 1000000000 / 1000000000 : Nat) : Int)] 215)).heap[w.heap.size]? = some (Obj.cells #[Value.bool false, Value.slice none 0 0] 107 (0, 0)) := heap_alloc2_old _ _ _
  generalize (w.alloc (Obj.cells #[Value.bool false, Value.slice none 0 0] 107)).alloc (Obj.cells #[Value.int IntKind.u64 ((m % 1000000000 : Nat) : Int), Value.int IntKind.u64 ((m / 1000000000 % 1000000000 : Nat) : Int), Value.int IntKind.u64 ((m / 1000000000 / 1000000000 : Nat) : Int)] 215) = W at *
  refine (trim_len _ _ _ [m % 1000000000, m / 1000000000 % 1000000000, m / 1000000000 / 1000000000] _ rfl (by simp) (by simp) hrow).mono ?_
  rintro e w' ⟨rfl, rfl⟩
  have HNAT := Lib.hid (nat_of_trim (cap := 3) (Low.cons (by omega) (Low.cons (by omega) (Low.cons (by omega) Low.nil))) hrow (n := m) (by simp [val]; omega) (by simp))
  have HX := Lib.hid hx
  have HBL := Lib.hid hblk
  clear hrow hx hblk hsz
  go_wp2_with fail
  refine (number_any _ _ m _ HNAT.out (by have := nl_le_of_lt (n := m) (k := 3) (by omega); omega)).mono ?_
  rintro e w2 ⟨v2, rfl, ⟨a2, n2, c2', rfl, hs2⟩, hx2⟩
  have HX2 := Lib.hid hx2
  have HS2 := Lib.hid hs2
  have BB := Lib.hid (HX2.out.block HBL.out)
  have d0 := cell2_0 BB.out
  have d1 := cell2_1 BB.out
  have f0 := frozen_of_row _ _ 0 _ _ BB.out
  have f1 := frozen_of_row _ _ 1 _ _ BB.out
  clear hs2 hx2
  go_wp2_with fail
  refine ret_num rfl rfl (blk2_set BB.out) rfl ⟨_, rfl, ?_, ext2 (HX.out.trans HX2.out) (Nat.le_refl _) _ _⟩
  have hs := HS2.out.grown (noInts2 BB.out) (grown2 _ _ (.bool (decide (sgnd false m < 0))) (.slice a2 n2 c2'))
  rw [show sgnd false m = n by unfold sgnd; have := HM.out; simp; omega] at hs ⊢
  exact num_of' rfl hs
end Go.Proofs.YtpdboaedoimahaaGreatDoor
end
section
namespace Go.Proofs.YtpdboaedoimahaaGreatDoor
open Go.RowKit
end Go.Proofs.YtpdboaedoimahaaGreatDoor
end
section
namespace Go.Proofs.YtpdboaedoimahaaGreatDoor
open Go.RowKit
theorem nl_one : nl 1 ≤ 1 := by unfold nl; rw [limbs_one (by omega) (by omega)]; simp
end Go.Proofs.YtpdboaedoimahaaGreatDoor
end
section
namespace Go.Proofs.YtpdboaedoimahaaGreatDoor
open Go.RowKit
theorem divInt_neg_neg (y z : Int) : Rat.divInt (-y) (-z) = Rat.divInt y z := by
 rw [Rat.divInt_eq_div, Rat.divInt_eq_div, Rat.intCast_neg, Rat.intCast_neg]
 by_cases h : (z : Rat) = 0
 ·rw [h]; simp [Rat.div_def]
 ·have : -(z : Rat) ≠ 0 := by grind
  grind
theorem divInt_gcd {y z : Int} {G : Nat} (hz : 0 < z) (hg : G = Nat.gcd y.natAbs z.natAbs) : (Rat.divInt y z).num = y / G ∧ (Rat.divInt y z).den = z.natAbs / G := by
 have e : (z : Int) = ((z.natAbs : Nat) : Int) := by omega
 rw [e, Rat.divInt_ofNat, Rat.mkRat_def, dif_neg (by omega), Rat.normalize_eq]
 subst hg
 constructor <;> simp
end Go.Proofs.YtpdboaedoimahaaGreatDoor
end
section
namespace Go.Proofs.YtpdboaedoimahaaGreatDoor
open Go.RowKit
end Go.Proofs.YtpdboaedoimahaaGreatDoor
end
section
namespace Go.Proofs.YtpdboaedoimahaaGreatDoor
open Go.RowKit
def Sz (q : Rat) (k : Nat) : Prop := nl q.num.natAbs ≤ k ∧ nl q.den ≤ k
theorem mul_new (q r : Rat) : Rat.divInt (q.num * r.num) ((q.den : Int) * (r.den : Int)) = q * r := by
 rw [Rat.mul_def', ← Rat.divInt_ofNat, Int.natCast_mul]
theorem nl_mulZ {y z : Int} {k : Nat} (h1 : nl y.natAbs ≤ k) (h2 : nl z.natAbs ≤ k) : nl (y * z).natAbs ≤ 2 * k := by
 rw [Int.natAbs_mul]; have := nl_mul y.natAbs z.natAbs; omega
end Go.Proofs.YtpdboaedoimahaaGreatDoor
end
section
namespace Go.Proofs.YtpdboaedoimahaaGreatDoor
open Go.RowKit
theorem add_new (q r : Rat) : Rat.divInt (q.num * (r.den : Int) + r.num * (q.den : Int)) ((q.den : Int) * (r.den : Int)) = q + r := by
 rw [Rat.add_def', ← Rat.divInt_ofNat, Int.natCast_mul]
theorem nl_addZ {y z : Int} {k : Nat} (h1 : nl y.natAbs ≤ k) (h2 : nl z.natAbs ≤ k) : nl (y + z).natAbs ≤ k + 1 := by
 have := nl_add y.natAbs z.natAbs
 have h3 : nl (y + z).natAbs ≤ nl (y.natAbs + z.natAbs) := nl_mono (by omega)
 omega
theorem den_ne (q r : Rat) : (q.den : Int) * (r.den : Int) ≠ 0 := by
 have e1 := q.den_nz
 have e2 := r.den_nz
 exact Int.mul_ne_zero (by omega) (by omega)
end Go.Proofs.YtpdboaedoimahaaGreatDoor
end
section
namespace Go.Proofs.YtpdboaedoimahaaGreatDoor
open Go.RowKit
end Go.Proofs.YtpdboaedoimahaaGreatDoor
end
section
set_option linter.unusedSectionVars false
set_option linter.unusedSimpArgs false
namespace Go.Proofs.YtpdboaedoimahaaGreatDoor
open Go.RowKit
instance : Mixed Tryz.prog := ⟨by kernel_rfl⟩
def CellP (u : PH) (b off : Nat) (x : Value) : Prop := ∃ cs t fr, u b = some (.cells cs t fr) ∧ cs[off]? = some x
theorem CellP.mono {u u' : PH} {b off : Nat} {x : Value} (h : CellP u b off x) (hl : PH.le u u') : CellP u' b off x := by
 obtain ⟨cs, t, fr, h1, h2⟩ := h; exact ⟨cs, t, fr, hl _ _ h1, h2⟩
theorem CellP.cell {u : PH} {w : World} {b off : Nat} {x : Value} (h : CellP u b off x) (hp : Part u w) : w.cell? ⟨b, off, none⟩ = some x := by
 obtain ⟨cs, t, fr, h1, h2⟩ := h
 simp [World.cell?, hp _ _ h1, h2]
def ElP (u : PH) (b off : Nat) (e : Value) : Prop := ∀ (i : Nat) (x : Value), e.cells[i]? = some x → CellP u b (off + i) x
theorem ElP.mono {u u' : PH} {b off : Nat} {e : Value} (h : ElP u b off e) (hl : PH.le u u') : ElP u' b off e := fun i x hi => (h i x hi).mono hl
def elOK (k : Option Nat) (e : Value) : Bool :=
 match k with
 | some n => match e with
  | .agg cs => Nat.beq n cs.size
  | _ => false
 | none => match e with | .agg _ => false | _ => true
def RowP (u : PH) (a : Option Addr) (cs : List Value) : Prop := ∀ j, j < cs.length → ∃ b off, a = some ⟨b, off, none⟩ ∧ CellP u b (off + j) (cs.getD j (.bool false))
def NatP (u : PH) (v : Value) (n : Nat) : Prop := ∃ a cap, v = .slice a (limbs n).length cap ∧ (limbs n).length ≤ cap ∧ RowP u a (u64s (limbs n))
def NumP (u : PH) (v : Value) (z : Int) : Prop := ∃ a n c, v = .agg #[.bool (decide (z < 0)), .slice a n c] ∧ NatP u (.slice a n c) z.natAbs
theorem NatP.mono {u u' : PH} {v : Value} {n : Nat} (h : NatP u v n) (hl : PH.le u u') : NatP u' v n := by
 obtain ⟨a, cap, h1, h2, h3⟩ := h
 exact ⟨a, cap, h1, h2, fun j hj => by obtain ⟨b, off, e1, e2⟩ := h3 j hj; exact ⟨b, off, e1, e2.mono hl⟩⟩
theorem NumP.mono {u u' : PH} {v : Value} {z : Int} (h : NumP u v z) (hl : PH.le u u') : NumP u' v z := by
 obtain ⟨a, n, c, h1, h2⟩ := h; exact ⟨a, n, c, h1, h2.mono hl⟩
theorem NatP.toW {u : PH} {w : World} {v : Value} {n : Nat} (h : NatP u v n) (hp : Part u w) : NatV w v n := by
 obtain ⟨a, cap, h1, h2, h3⟩ := h
 exact ⟨a, cap, h1, h2, fun j hj => by obtain ⟨b, off, e1, e2⟩ := h3 j hj; exact ⟨b, off, e1, e2.cell hp⟩⟩
theorem NumP.toW {u : PH} {w : World} {v : Value} {z : Int} (h : NumP u v z) (hp : Part u w) : NumV w v z := by
 obtain ⟨a, n, c, h1, h2⟩ := h; exact ⟨a, n, c, h1, h2.toW hp⟩
theorem NatP.ofW {u : PH} {w : World} {v : Value} {n : Nat} (h : NatV w v n) (hc : Clean u w) : NatP u v n := by
 obtain ⟨a, cap, h1, h2, h3⟩ := h
 refine ⟨a, cap, h1, h2, fun j hj => ?_⟩
 obtain ⟨b, off, e1, e2⟩ := h3 j hj
 refine ⟨b, off, e1, ?_⟩
 have hj' : j < (limbs n).length := by simpa using hj
 have hx : (u64s (limbs n)).getD j (.bool false) = .int .u64 ((limbs n).getD j 0 : Nat) := by simp [u64s, hj']
 rw [hx] at e2 ⊢
 unfold World.cell? at e2
 simp only at e2
 split at e2
 ·rename_i cs t fr hb
  simp at e2
  exact ⟨cs, t, fr, hc b cs t fr _ _ hb e2, e2⟩
 ·cases e2
theorem NumP.ofW {u : PH} {w : World} {v : Value} {z : Int} (h : NumV w v z) (hc : Clean u w) : NumP u v z := by
 obtain ⟨a, n, c, h1, h2⟩ := h; exact ⟨a, n, c, h1, NatP.ofW h2 hc⟩
theorem NumP.opn {u : PH} {v : Value} {z : Int} (h : NumP u v z) : ∃ b a n c, v = .agg #[.bool b, .slice a n c] := by
 obtain ⟨a, n, c, rfl, _⟩ := h; exact ⟨_, a, n, c, rfl⟩
theorem Fn0.ofW {P : Program} {f : FuncId} {args : List Value} {u : PH} {R : Value → PH → Prop} (Q : Value → World → Prop) (h : ∀ w, Part u w → Calls P f args.toArray w fun e w' => ∃ v, e = .returned v ∧ Q v w' ∧ Ext w w')
  (hq : ∀ v w' u', Q v w' → Part u' w' → Clean u' w' → PH.le u u' → R v u') : Fn0 P f args u R := by
 intro w hg
 refine Calls.mono (h w hg.pu) fun e w' he => ?_
 obtain ⟨v, e1, e2, e3⟩ := he
 have hsz : w.heap.size ≤ w'.heap.size := e3.size
 have hold : ∀ g, g < w.heap.size → w'.heap[g]? = w.heap[g]? := fun g hg => Below.block e3 g hg
 have g1 : Part (fun g => if g < w.heap.size then u g else w'.heap[g]?) w' := by
  intro g o hgo
  simp only at hgo
  split at hgo
  ·rename_i hlt; rw [hold g hlt]; exact hg.pu g o hgo
  ·exact hgo
 have g2 : Clean (fun g => if g < w.heap.size then u g else w'.heap[g]?) w' := by
  intro g cs t fr j z hgo hj
  simp only
  split
  ·rename_i hlt; rw [hold g hlt] at hgo; exact hg.cl g cs t fr j z hgo hj
  ·exact hgo
 have g3 : PH.le u (fun g => if g < w.heap.size then u g else w'.heap[g]?) := fun g o hgo => by simp only; rw [if_pos (hg.pu.lt hgo)]; exact hgo
 refine ⟨v, _, PH.mt, e1, ⟨g1, Part.mt _, fun _ => .inr rfl, g2⟩, ⟨hsz, fun g hg _ => hold g hg, fun g hg => by simp only; rw [if_pos hg], fun _ _ h => h, ⟨e3.os, e3.output⟩, fun f => f.elim⟩, rfl, hq v w' _ e2 g1 g2 g3⟩
section rules
variable [Flag] {P : Program} [Mixed P] {fn : Func} {Post : Spec} {st : List KI × S} {u m : PH}
theorem view_load {env : Operand → Value} {o : Op} {k : Option (Option Nat)} {x : Value} (h : viewOp P env o = .load k x) : ∃ t X, o = .load t X ∧ env X = x ∧ ldKind P t = k := by
 cases o <;> simp only [viewOp] at h <;> try cases h
 any_goals ((repeat' split at h) <;> cases h; done)
 ·exact ⟨_, _, rfl, rfl, rfl⟩
theorem view_addr {env : Operand → Value} {o : Op} {sz : Option Nat} {x i : Value} (h : viewOp P env o = .addr sz x i) : ∃ t X I, o = .indexAddr t X I ∧ env X = x ∧ env I = i ∧ elemSz P t = sz := by
 cases o <;> simp only [viewOp] at h <;> try cases h
 any_goals ((repeat' split at h) <;> cases h; done)
 ·exact ⟨_, _, _, rfl, rfl, rfl, rfl⟩
theorem view_un {env : Operand → Value} {o : Op} {op : UnOp} {x : Value} (h : viewOp P env o = .un op x) : ∃ t X, o = .unOp op t X ∧ env X = x := by
 cases o <;> simp only [viewOp] at h <;> try cases h
 any_goals ((repeat' split at h) <;> cases h; done)
 ·exact ⟨_, _, rfl, rfl⟩
theorem run_loadEl {t : TypeId} {k : Option Nat} {b off : Nat} {e : Value} {w : World} (hk : ldKind P t = some k) (hs : elOK k e = true) (h : ElP u b off e) (hp : Part u w) : (loadVar t ⟨b, off, none⟩).run P w = .ok e w := by
 unfold ldKind at hk
 unfold loadVar
 split at hk
 ·rename_i ha
  split at hk
  ·rename_i n hn
   simp at hk; subst hk
   unfold elOK at hs
   simp only at hs
   split at hs
   ·rename_i cs
    have hl := Nat.eq_of_beq_eq_true hs
    have := run_loadCells_list (P := P) w ⟨b, off, none⟩ cs.toList (fun j v hj => by rw [addr_add]; exact (h j v (by simpa [Value.cells] using hj)).cell hp)
    simp only [Sem.run_bind, run_isAgg' ha, Result.andThen_ok, if_true, run_sizeOf' hn, hl]
    simp at this
    rw [this]; simp
   ·cases hs
  ·cases hk
 ·rename_i ha
  simp at hk; subst hk
  unfold elOK at hs
  have hc : e.cells = #[e] := by cases e <;> simp_all [Value.cells]
  have := (h 0 e (by simp [hc])).cell hp
  simp [run_isAgg' ha]
  simp at this
  simp [this]
 ·cases hk
theorem G.loadU (kd : Option Nat) (b off : Nat) (e : Value) (h : stopV P (adv P st) = .load (some kd) (.pointer (some ⟨b, off, none⟩))) (hs : elOK kd e = true) (he : ElP u b off e) (k : G P fn Post (nx (adv P st) e) u m) : G P fn Post st u m := by
 refine G.ask h (by simp) (fun env o hview w hp => ?_) k
 obtain ⟨t, X, e1, e2, e3⟩ := view_load hview
 obtain ⟨dst, opp, type, pos, after, guard⟩ := o
 simp only at e1; subst e1
 simp [execOp, Instr.loadAt, Instr.sureAddr, e2, run_loadEl e3 hs he (hp rfl).1]
theorem G.loadM (kd : Option Nat) (b off : Nat) (e : Value) (h : stopV P (adv P st) = .load (some kd) (.pointer (some ⟨b, off, none⟩))) (hs : elOK kd e = true) (he : ElP m b off e) (k : G P fn Post (nx (adv P st) e) u m) : G P fn Post st u m := by
 refine G.ask h (by simp) (fun env o hview w hp => ?_) k
 obtain ⟨t, X, e1, e2, e3⟩ := view_load hview
 obtain ⟨dst, opp, type, pos, after, guard⟩ := o
 simp only at e1; subst e1
 simp [execOp, Instr.loadAt, Instr.sureAddr, e2, run_loadEl e3 hs he (hp rfl).2]
theorem G.addr (b off n c j sz : Nat) (h : stopV P (adv P st) = .addr (some sz) (.slice (some ⟨b, off, none⟩) n c) (.int .i64 (j : Int))) (hj : j < n)
  (k : G P fn Post (nx (adv P st) (.pointer (some ⟨b, off + j * sz, none⟩))) u m) : G P fn Post st u m := by
 refine G.ask h (by simp) (fun env o hview w hp => ?_) k
 obtain ⟨t, X, I, e1, e2, e3, hsz⟩ := view_addr hview
 obtain ⟨dst, opp, type, pos, after, guard⟩ := o
 simp only at e1; subst e1
 unfold elemSz at hsz
 split at hsz
 ·rename_i e hu
  have h1 : (0 : Int) ≤ j ∧ (j : Int) < n := by omega
  simp [execOp, Instr.indexAt, asIntOf, e2, e3, run_underlying hu, h1, run_sizeOf' hsz, addr_add]
  omega
 ·cases hsz
theorem G.neg (x z : Int) (h : stopV P (adv P st) = .un .neg (.int .i64 x)) (hz : -x = z) (h1 : -9223372036854775808 ≤ z) (h2 : z ≤ 9223372036854775807)
  (k : G P fn Post (nx (adv P st) (.int .i64 z)) u m) : G P fn Post st u m := by
 refine G.ask h (by simp) (fun env o hview w hp => ?_) k
 obtain ⟨t, X, e1, e2⟩ := view_un hview
 obtain ⟨dst, opp, type, pos, after, guard⟩ := o
 simp only at e1; subst e1
 have : (0 : Int) - x = z := by omega
 simp [execOp, Op.unary, e2, Op.intArith, this, i64_wrap h1 h2]
end rules
end Go.Proofs.YtpdboaedoimahaaGreatDoor
end
section
set_option linter.unusedSectionVars false
namespace Go.Proofs.YtpdboaedoimahaaGreatDoor
open Go.RowKit
section
variable {u : PH} {x x' : Value}
theorem numCompare0 {y z : Int} (h : NumP u x y) (h' : NumP u x' z) (sy : nl y.natAbs ≤ 5000000000000) (sz : nl z.natAbs ≤ 5000000000000) : Fn0 Tryz.prog 129 [x, x'] u fun v _ => v = .int .i64 (sgn (y - z)) :=
 Fn0.ofW (fun v _ => v = .int .i64 (sgn (y - z))) (fun w hp => (numCompare_any x x' y z w (h.toW hp) (h'.toW hp) sy sz).mono fun _ _ ⟨e, k⟩ => ⟨_, e, rfl, k⟩) (fun _ _ _ h _ _ _ => h)
theorem numGcd0 {y z : Int} (h : NumP u x y) (h' : NumP u x' z) (sy : nl y.natAbs ≤ 5000000000000) (sz : nl z.natAbs ≤ 5000000000000) : Fn0 Tryz.prog 128 [x, x'] u fun v u' => NumP u' v (Nat.gcd y.natAbs z.natAbs) :=
 Fn0.ofW (fun v w => NumV w v (Nat.gcd y.natAbs z.natAbs)) (fun w hp => numGcd_any x x' y z w (h.toW hp) (h'.toW hp) sy sz) (fun _ _ _ h _ c _ => NumP.ofW h c)
theorem numOf0 {z : Int} (h1 : -9223372036854775808 ≤ z) (h2 : z ≤ 9223372036854775807) : Fn0 Tryz.prog 130 [.int .i64 z] u fun v u' => NumP u' v z :=
 Fn0.ofW (fun v w => NumV w v z) (fun w _ => numOf_any z w h1 h2) (fun _ _ _ h _ c _ => NumP.ofW h c)
end
end Go.Proofs.YtpdboaedoimahaaGreatDoor
end
section
set_option linter.unusedSectionVars false
set_option linter.unusedSimpArgs false
namespace Go.Proofs.YtpdboaedoimahaaGreatDoor
variable [Flag]
open Go.RowKit
def PH.upd (m : PH) (g : Nat) (o : Obj) : PH := fun h => if h = g then some o else m h
theorem upd_same (m : PH) (g : Nat) (o : Obj) : m.upd g o g = some o := by simp [PH.upd]
theorem upd_ne (m : PH) {g h : Nat} (o : Obj) (hn : h ≠ g) : m.upd g o h = m h := by simp [PH.upd, hn]
theorem upd_upd (m : PH) (g : Nat) (o o' : Obj) : (m.upd g o).upd g o' = m.upd g o' := by
 funext h; by_cases e : h = g
 ·subst e; simp [PH.upd]
 ·simp [PH.upd, e]
theorem le_upd {m : PH} {g : Nat} (o : Obj) (h : m g = none) : PH.le m (m.upd g o) := fun k x hk => by
 by_cases e : k = g
 ·subst e; rw [h] at hk; cases hk
 ·rw [upd_ne _ _ e]; exact hk
def flat (es : List Value) : List Value := es.flatMap fun e => e.cells.toList
def ElsOK (sz : Nat) (es : List Value) : Prop := ∀ e ∈ es, e.cells.size = sz ∧ ∀ x ∈ e.cells.toList, cellOK x = true
theorem flat_length {sz : Nat} : ∀ {es : List Value}, ElsOK sz es → (flat es).length = es.length * sz
 | [], _ => by simp [flat]
 | e :: es, h => by
  have h1 := (h e (by simp)).1
  have ih := flat_length (sz := sz) (es := es) (fun x hx => h x (List.mem_cons_of_mem _ hx))
  unfold flat at ih ⊢
  simp only [List.flatMap_cons, List.length_append, ih, List.length_cons, Array.length_toList, h1, Nat.add_mul, Nat.one_mul]; omega
theorem flat_append (a b : List Value) : flat (a ++ b) = flat a ++ flat b := by simp [flat]
theorem flat_ok {sz : Nat} {es : List Value} (h : ElsOK sz es) : ∀ x ∈ flat es, cellOK x = true := by
 intro x hx
 obtain ⟨e, he, hx⟩ := List.mem_flatMap.1 hx
 exact (h e he).2 x hx
theorem ElsOK.append {sz : Nat} {a b : List Value} (h : ElsOK sz a) (k : ElsOK sz b) : ElsOK sz (a ++ b) := fun e he => (List.mem_append.1 he).elim (h e) (k e)
theorem flat_get {sz : Nat} : ∀ {es : List Value}, ElsOK sz es → ∀ {j i : Nat} {e x : Value}, es[j]? = some e → e.cells[i]? = some x → (flat es)[j * sz + i]? = some x
 | [], _, j, i, e, x, hj, _ => by simp at hj
 | d :: es, h, j, i, e, x, hj, hi => by
  have hd := (h d (by simp)).1
  have hr : ElsOK sz es := fun x hx => h x (List.mem_cons_of_mem _ hx)
  have e1 : flat (d :: es) = d.cells.toList ++ flat es := by simp [flat]
  rw [e1]
  cases j with
  | zero =>
   simp at hj; subst hj
   have : i < d.cells.size := (Array.getElem?_eq_some_iff.1 hi).1
   rw [List.getElem?_append_left (by simp; omega)]
   simpa using hi
  | succ j =>
   simp at hj
   rw [List.getElem?_append_right (by simp [hd, Nat.add_mul]; omega)]
   have := flat_get hr hj hi
   rw [← this]; congr 1
   simp [hd, Nat.add_mul]; omega
def ArrAt (m0 m : PH) (v : Value) (t : TypeId) (sz : Nat) (es : List Value) : Prop :=
 ElsOK sz es ∧ ((v = .slice none 0 0 ∧ es = [] ∧ m = m0) ∨
  ∃ g cap rest, m0 g = none ∧ m = m0.upd g (.cells (flat es ++ rest).toArray t (0, 0)) ∧ v = .slice (some ⟨g, 0, none⟩) es.length cap ∧ es.length ≤ cap ∧ (flat es ++ rest).length = cap * sz ∧ ∀ x ∈ rest, cellOK x = true)
theorem ArrAt.nil (m : PH) (t : TypeId) (sz : Nat) : ArrAt m m (.slice none 0 0) t sz [] := ⟨fun _ h => absurd h (by simp), .inl ⟨rfl, rfl, rfl⟩⟩
theorem ArrAt.shape {m0 m : PH} {v : Value} {t : TypeId} {sz : Nat} {es : List Value} (h : ArrAt m0 m v t sz es) : ∃ a cap, v = .slice a es.length cap := by
 rcases h.2 with ⟨rfl, rfl, _⟩ | ⟨g, cap, rest, _, _, rfl, _⟩
 ·exact ⟨none, 0, rfl⟩
 ·exact ⟨_, cap, rfl⟩
theorem elInfo_spec {P : Program} {t e : TypeId} {sz bt : Nat} {z : Value} (h : elInfo P t = some (e, sz, bt, z)) : P.underlying t = some (.slice e) ∧ ∃ i, P.info? e = some i ∧ i.zero = some z ∧ i.size = sz ∧ i.bytes = bt := by
 unfold elInfo at h
 split at h
 ·rename_i e' hu
  split at h
  ·rename_i i hi
   split at h
   ·rename_i z' hz
    simp at h
    obtain ⟨rfl, rfl, rfl, rfl⟩ := h
    exact ⟨hu, i, hi, hz, rfl, rfl⟩
   ·cases h
  ·cases h
 ·cases h
theorem zeroCells_ok {z : Array Value} (h : z.toList.all cellOK = true) (n : Nat) : ∀ x ∈ (Builtin.zeroCells z n).toList, cellOK x = true := by
 intro x hx
 simp [Builtin.zeroCells] at hx
 obtain ⟨i, hi, rfl⟩ := hx
 rw [List.all_eq_true] at h
 by_cases hz : z.size = 0
 ·simp [hz] at hi
 ·have hlt : i % z.size < z.size := Nat.mod_lt _ (by omega)
  refine h _ ?_
  rw [getElem!_pos z _ hlt]; simp
theorem madeCells_ok {z : Array Value} (h : z.toList.all cellOK = true) (n : Nat) (hz : z.size ≠ 0) : ∀ x ∈ (madeCells z n).toList, cellOK x = true := by
 intro x hx
 simp [madeCells] at hx
 obtain ⟨i, hi, rfl⟩ := hx
 rw [List.all_eq_true] at h
 have hlt : i % z.size < z.size := Nat.mod_lt _ (by omega)
 refine h _ ?_
 rw [getElem!_pos z _ hlt]; simp
section worlds
variable {u m : PH} {w : World}
theorem Good.newM (h : Good u m w) {cs : Array Value} {t : TypeId} (hw : ∀ x ∈ cs.toList, cellOK x = true) : Good u (m.upd w.heap.size (.cells cs t (0, 0))) (w.alloc (.cells cs t)) ∧ Grown u m w u (m.upd w.heap.size (.cells cs t (0, 0))) (w.alloc (.cells cs t)) ∧ m w.heap.size = none ∧ u w.heap.size = none := by
 have hm : m w.heap.size = none := h.pm.none (Nat.le_refl _)
 have hu : u w.heap.size = none := h.pu.none (Nat.le_refl _)
 have g1 := h.alloc (cs := cs) (t := t) (fr := (0, 0)) (fun j z e => cellOK_word (hw _ (by obtain ⟨hj, he⟩ := Array.getElem?_eq_some_iff.1 e; rw [← he]; simp)) z rfl)
 refine ⟨⟨g1.pu, fun g o hg => ?_, fun g => ?_, g1.cl⟩, ⟨by rw [size_alloc']; omega, fun g hg _ => heap_alloc_lt _ _ hg, fun _ _ => rfl, fun g hg hm => by rw [upd_ne _ _ (by omega)]; exact hm, ⟨rfl, rfl⟩, fun _ => ⟨rfl, Nat.le_refl _⟩⟩, hm, hu⟩
 ·by_cases e : g = w.heap.size
  ·subst e; rw [upd_same] at hg; rw [heap_alloc_eq]; exact hg
  ·rw [upd_ne _ _ e] at hg; exact g1.pm g o hg
 ·by_cases e : g = w.heap.size
  ·subst e; exact .inl hu
  ·rw [upd_ne _ _ e]; exact h.ap g
theorem Good.drew' (h : Good u m w) : Good u m w.drew := ⟨h.pu, h.pm, h.ap, h.cl⟩
theorem Good.less (h : Good u m w) {m' : PH} (hl : PH.le m' m) : Good u m' w := by
 refine ⟨h.pu, fun g o hg => h.pm g o (hl g o hg), fun g => (h.ap g).imp id fun e => ?_, h.cl⟩
 cases hg : m' g with
 | none => rfl
 | some o => rw [hl g o hg] at e; cases e
theorem Good.setM (h : Good u m w) {g : Nat} {cs cs' : Array Value} {t : TypeId} (hg : m g = some (.cells cs t (0, 0))) (hw : ∀ x ∈ cs'.toList, cellOK x = true) : Good u (m.upd g (.cells cs' t (0, 0))) (w.setRow g cs') ∧ Grown u m w u (m.upd g (.cells cs' t (0, 0))) (w.setRow g cs') := by
  have hb := h.pm g _ hg
  have hug : u g = none := by rcases h.ap g with e | e
                              · exact e
                              · rw [hg] at e; cases e
  have hsame := setRow_heap w g cs cs' t (0, 0) hb
  have hother : ∀ k, k ≠ g → (w.setRow g cs').heap[k]? = w.heap[k]? := fun k hk => setRow_other w g k cs' hk
  refine ⟨⟨fun k o hk => ?_, fun k o hk => ?_, fun k => ?_, fun k cs1 t1 fr1 j z hk hj => ?_⟩, ⟨by rw [setRow_size]; exact Nat.le_refl _, fun k hk hm => hother k (fun e => by rw [e, hg] at hm; cases hm), fun _ _ => rfl, fun k hk hm => by rw [upd_ne _ _ (fun e => by rw [e, hg] at hm; cases hm)]; exact hm, ⟨rfl, rfl⟩, fun _ => ⟨rfl, Nat.le_refl _⟩⟩⟩
  · rw [hother k (fun e => by rw [e, hug] at hk; cases hk)]; exact h.pu k o hk
  · by_cases e : k = g
    · subst e; rw [upd_same] at hk; rw [hsame]; exact hk
    · rw [upd_ne _ _ e] at hk; rw [hother k e]; exact h.pm k o hk
  · by_cases e : k = g
    · subst e; exact .inl hug
    · rw [upd_ne _ _ e]; exact h.ap k
  · by_cases e : k = g
    · subst e
      rw [hsame] at hk
      simp only [Option.some.injEq, Obj.cells.injEq] at hk
      obtain ⟨rfl, _, _⟩ := hk
      obtain ⟨hlt, he⟩ := Array.getElem?_eq_some_iff.1 hj
      exact absurd he (cellOK_word (hw _ (by simp)) z)
    · rw [hother k e] at hk; exact h.cl k cs1 t1 fr1 j z hk hj
theorem Good.newU (h : Good u m w) (o : Obj) : Good (u.upd w.heap.size o) m (w.alloc o) ∧ Grown u m w (u.upd w.heap.size o) m (w.alloc o) ∧ m w.heap.size = none ∧ u w.heap.size = none := by
 have hm : m w.heap.size = none := h.pm.none (Nat.le_refl _)
 have hu : u w.heap.size = none := h.pu.none (Nat.le_refl _)
 refine ⟨⟨fun g o' hg => ?_, fun g o' hg => ?_, fun g => ?_, fun g cs t fr j z hg hj => ?_⟩, ⟨by rw [size_alloc']; omega, fun g hg _ => heap_alloc_lt _ _ hg, fun g hg => upd_ne _ _ (by omega), fun g hg hm => hm, ⟨rfl, rfl⟩, fun _ => ⟨rfl, Nat.le_refl _⟩⟩, hm, hu⟩
 ·by_cases e : g = w.heap.size
  ·subst e; rw [upd_same] at hg; rw [heap_alloc_eq]; exact hg
  ·rw [upd_ne _ _ e] at hg; rw [heap_alloc_lt _ _ (h.pu.lt hg)]; exact h.pu g o' hg
 ·rw [heap_alloc_lt _ _ (h.pm.lt hg)]; exact h.pm g o' hg
 ·by_cases e : g = w.heap.size
  ·subst e; exact .inr hm
  ·rw [upd_ne _ _ e]; exact h.ap g
 ·by_cases e : g = w.heap.size
  ·subst e; rw [heap_alloc_eq] at hg; rw [upd_same]; exact hg
  ·rw [upd_ne _ _ e]
   have hlt := lt_of_at hg
   rw [size_alloc'] at hlt
   rw [heap_alloc_lt _ _ (by omega)] at hg
   exact h.cl g cs t fr j z hg hj
end worlds
def ElsP (u : PH) (b off sz : Nat) (xs : List Value) : Prop := ∀ j e, xs[j]? = some e → ElP u b (off + j * sz) e
theorem ElsP.mono {u u' : PH} {b off sz : Nat} {xs : List Value} (h : ElsP u b off sz xs) (hl : PH.le u u') : ElsP u' b off sz xs := fun j e hj => (h j e hj).mono hl
theorem flat_split {sz : Nat} (hs : 0 < sz) : ∀ {xs : List Value}, ElsOK sz xs → ∀ {k : Nat} {x : Value}, (flat xs)[k]? = some x → ∃ j i e, k = j * sz + i ∧ xs[j]? = some e ∧ e.cells[i]? = some x
 | [], _, k, x, h => by simp [flat] at h
 | d :: xs, ho, k, x, h => by
  have hd := (ho d (by simp)).1
  have e1 : flat (d :: xs) = d.cells.toList ++ flat xs := by simp [flat]
  rw [e1, List.getElem?_append] at h
  split at h
  ·exact ⟨0, k, d, by simp, by simp, by simpa using h⟩
  ·rename_i hk
   obtain ⟨j, i, e, h1, h2, h3⟩ := flat_split hs (fun x hx => ho x (List.mem_cons_of_mem _ hx)) h
   refine ⟨j + 1, i, e, ?_, by simpa using h2, h3⟩
   simp [hd] at h1 hk
   rw [Nat.add_mul]; omega
theorem ElsP.cells {u : PH} {w : World} {b off sz : Nat} {xs : List Value} (hs : 0 < sz) (h : ElsP u b off sz xs) (ho : ElsOK sz xs) (hp : Part u w) : ∀ j v, (flat xs)[j]? = some v → w.cell? ((⟨b, off, none⟩ : Addr).add j) = some v := by
 intro k x hk
 obtain ⟨j, i, e, rfl, h2, h3⟩ := flat_split hs ho hk
 rw [addr_add]
 have := (h j e h2 i x h3).cell hp
 rw [show off + (j * sz + i) = off + j * sz + i by omega]; exact this
section rules
variable {P : Program} [Mixed P] {fn : Func} {Post : Spec} {st : List KI × S} {u m : PH}
theorem does_value {env : Operand → Value} {o : Oper} {w w' : World} {v : Value} {K : Value → World → Prop} (h : (execOp env o).run P w = .ok (.value v) w') (hk : K v w') : OpDoes P env o w K := by
 unfold OpDoes; rw [h]; exact hk
theorem view_app {env : Operand → Value} {o : Oper} {inf : Option (TypeId × Nat × Nat × Value)} {xs : List Value} (h : viewOp P env o.op = .app inf true xs) : mutOp o.op = true ∧ freeOp o.op = false ∧ ∃ t, elInfo P t = inf ∧ ∀ w, (execOp env o).run P w = ((Builtin.append_ #[t, t] o.type xs.toArray).run P w).andThen fun v w' => .ok (.value v) w' := by
 obtain ⟨dst, opp, type, pos, after, guard⟩ := o
 simp only at h ⊢
 cases opp <;> simp only [viewOp] at h <;> try cases h
 ·split at h <;> cases h
 rename_i c
 obtain ⟨cal, args, tys⟩ := c
 simp only at h
 split at h
 ·split at h <;> cases h
 ·rename_i b
  split at h
  ·split at h
   ·rename_i t t' htt
    simp only [Stop.app.injEq] at h
    obtain ⟨rfl, h2, rfl⟩ := h
    have := Nat.eq_of_beq_eq_true h2
    subst this
    have hty : tys = #[t, t] := by apply Array.ext'; simpa using htt
    refine ⟨rfl, rfl, t, rfl, fun w => ?_⟩
    have : (args.map env) = (args.toList.map env).toArray := by apply Array.ext'; simp
    simp [execOp, resolve, invoke, builtin, hty, this]
   ·cases h
  ·cases h
 ·cases h
theorem append_world {t e : TypeId} {sz bt : Nat} {z : Value} (m0 : PH) (es xs : List Value) (v : Value) (b off n c : Nat) (ty : TypeId) (hi : elInfo P t = some (e, sz, bt, z)) (hz : z.cells.toList.all cellOK = true) (hzs : z.cells.size = sz) (hsz : 0 < sz)
  (ha : ArrAt m0 m v e sz es) (ho : ElsOK sz xs) (hn : xs.length = n) (hn0 : 0 < n) (hb : (es.length + n) * bt ≤ 140737488355328) (hb2 : es.length + n ≤ 9223372036854775807) {w : World} (hgd : Good u m w)
  (hsrc : ∀ j v, (flat xs)[j]? = some v → w.cell? ((⟨b, off, none⟩ : Addr).add j) = some v) :
  ∃ v' w' m', (Builtin.append_ #[t, t] ty #[v, .slice (some ⟨b, off, none⟩) n c]).run P w = .ok v' w' ∧ Good u m' w' ∧ Grown u m w u m' w' ∧ ArrAt m0 m' v' e sz (es ++ xs) := by
 obtain ⟨hu, i, hi1, hi2, rfl, rfl⟩ := elInfo_spec hi
 have hfl := flat_length ho
 have hok := ha.1.append ho
 rcases ha.2 with ⟨rfl, rfl, rfl⟩ | ⟨g, cap, rest, hg0, rfl, rfl, hcap, hlen, hrest⟩
 ·simp only [List.length_nil, Nat.zero_add] at hb hb2
  have hr := run_append_nil (P := P) w t ty e i z hu hi1 hi2 ⟨b, off, none⟩ n c (flat xs) (by rw [hfl, hn]) hsrc hn0 (by omega) (by omega)
  have hcell : ∀ x ∈ ((flat xs).toArray ++ Builtin.zeroCells z.cells (grownCap w n 0 e - n)).toList, cellOK x = true := fun x hx => by
   simp only [Array.toList_append, List.mem_append] at hx
   rcases hx with hx | hx
   ·exact flat_ok ho x hx
   ·exact zeroCells_ok hz _ x hx
  obtain ⟨g1, g2, g3, _⟩ := hgd.drew'.newM (t := e) hcell
  refine ⟨_, _, _, hr, g1, ⟨g2.sz, g2.old, g2.us, g2.ms, g2.io, fun f => ⟨(g2.dr f).tape, Nat.le_of_succ_le (g2.dr f).dr⟩⟩, hok, .inr ⟨w.heap.size, grownCap w n 0 e, (Builtin.zeroCells z.cells (grownCap w n 0 e - n)).toList, g3, ?_, ?_, ?_, ?_, zeroCells_ok hz _⟩⟩
  ·congr 2; apply Array.ext'; simp
  ·simp [hn]
  ·simp only [List.nil_append, hn]; exact grownCap_ge w n 0 e
  ·have := grownCap_ge w n 0 e
   simp only [List.nil_append, List.length_append, hfl, hn, Array.length_toList, size_zeroCells, hzs]
   rw [← Nat.add_mul]; congr 1; omega
 ·have hgw := hgd.pm g _ (upd_same _ _ _)
  have hfe := flat_length ha.1
  by_cases hroom : es.length + n ≤ cap
  ·have hle : (es.length + n) * i.size ≤ cap * i.size := Nat.mul_le_mul_right _ hroom
   rw [Nat.add_mul] at hle
   have hr := run_append_room (P := P) w t ty e i hu hi1 g es.length cap (flat es ++ rest).toArray hgw ⟨b, off, none⟩ n c (flat xs) (by rw [hfl, hn]) hsrc (fun x hx => cellOK_one (flat_ok ho x hx)) hroom (by simp only [List.size_toArray]; rw [hlen, hfl, hn]; omega)
   have e1 : (flat es ++ rest).toArray.toList.take (es.length * i.size) = flat es := by
    simp only [List.toList_toArray]; rw [← hfe, List.take_left]
   rw [e1] at hr
   have hd : ∀ x ∈ (flat es ++ rest).toArray.toList.drop (es.length * i.size + (flat xs).length), cellOK x = true := by
    intro x hx
    simp only [List.toList_toArray] at hx
    rw [← hfe, ← List.drop_drop, List.drop_left] at hx
    exact hrest x (List.mem_of_mem_drop hx)
   have hcell : ∀ x ∈ (flat es ++ flat xs ++ (flat es ++ rest).toArray.toList.drop (es.length * i.size + (flat xs).length)).toArray.toList, cellOK x = true := by
    intro x hx
    simp only [List.toList_toArray] at hx
    rcases List.mem_append.1 hx with hx | hx
    ·rcases List.mem_append.1 hx with hx | hx
     ·exact flat_ok ha.1 x hx
     ·exact flat_ok ho x hx
    ·exact hd x (by simpa using hx)
   obtain ⟨g1, g2⟩ := hgd.setM (upd_same _ _ _) hcell
   rw [upd_upd] at g1 g2
   refine ⟨_, _, _, hr, g1, g2, hok, .inr ⟨g, cap, _, hg0, by rw [flat_append], by simp [hn], by simp [hn]; exact hroom, ?_, hd⟩⟩
   rw [flat_append]
   simp only [List.length_append, hfe, hfl, hn, List.toList_toArray, List.length_drop]
   simp only [List.length_append, hfe] at hlen
   omega
  ·have hold : ∀ j v, (flat es)[j]? = some v → w.cell? ((⟨g, 0, none⟩ : Addr).add j) = some v := by
    intro j x hj
    rw [addr_add]
    simp [World.cell?, hgw]
    rw [List.getElem?_append_left (by obtain ⟨h, _⟩ := List.getElem?_eq_some_iff.1 hj; exact h)]; exact hj
   have hr := run_append_grow (P := P) w t ty e i z hu hi1 hi2 ⟨g, 0, none⟩ es.length cap (flat es) hfe hold ⟨b, off, none⟩ n c (flat xs) (by rw [hfl, hn]) hsrc (by omega) (by omega) (growslice_fits (by omega) hb)
   have hcell : ∀ x ∈ ((flat es).toArray ++ (flat xs).toArray ++ Builtin.zeroCells z.cells (grownCap w (es.length + n) cap e - (es.length + n))).toList, cellOK x = true := fun x hx => by
    simp only [Array.toList_append, List.mem_append] at hx
    rcases hx with (hx | hx) | hx
    ·exact flat_ok ha.1 x hx
    ·exact flat_ok ho x hx
    ·exact zeroCells_ok hz _ x hx
   obtain ⟨g1, g2, g3, _⟩ := hgd.drew'.newM (t := e) hcell
   have hdsz : w.drew.heap.size = w.heap.size := rfl
   rw [hdsz] at g1 g2 g3
   have hng : w.heap.size ≠ g := fun h => by have := lt_of_at hgw; omega
   have hm0 : m0 w.heap.size = none := by
    have := g3
    rw [upd_ne _ _ hng] at this; exact this
   refine ⟨_, _, m0.upd w.heap.size (.cells ((flat es).toArray ++ (flat xs).toArray ++ Builtin.zeroCells z.cells (grownCap w (es.length + n) cap e - (es.length + n))) e (0, 0)), hr, g1.less (fun k o hk => ?_), ⟨g2.sz, g2.old, g2.us, fun k hk hmk => ?_, g2.io, fun f => ⟨(g2.dr f).tape, Nat.le_of_succ_le (g2.dr f).dr⟩⟩, hok, .inr ⟨w.heap.size, grownCap w (es.length + n) cap e, (Builtin.zeroCells z.cells (grownCap w (es.length + n) cap e - (es.length + n))).toList, hm0, ?_, ?_, ?_, ?_, zeroCells_ok hz _⟩⟩
   ·by_cases hk1 : k = w.heap.size
    ·subst hk1; rw [upd_same] at hk ⊢; exact hk
    ·rw [upd_ne _ _ hk1] at hk ⊢
     rw [upd_ne _ _ (fun h => by rw [h, hg0] at hk; cases hk)]; exact hk
   ·rw [upd_ne _ _ (by omega)]
    by_cases hkg : k = g
    ·rw [hkg]; exact hg0
    ·rw [upd_ne _ _ hkg] at hmk; exact hmk
   ·congr 2; apply Array.ext'; simp [flat_append]
   ·simp [hn]
   ·simp only [List.length_append, hn]; exact grownCap_ge w _ cap e
   ·have := grownCap_ge w (es.length + n) cap e
    rw [flat_append]
    simp only [List.length_append, hfl, hfe, hn, Array.length_toList, size_zeroCells, hzs]
    rw [← Nat.add_mul, ← Nat.add_mul]; congr 1; omega
theorem G.append (e : TypeId) (sz bt : Nat) (z : Value) (m0 : PH) (es xs : List Value) (v : Value) (b off n c : Nat) (h : stopV P (adv P st) = .app (some (e, sz, bt, z)) true [v, .slice (some ⟨b, off, none⟩) n c]) (hz : z.cells.toList.all cellOK = true) (hzs : z.cells.size = sz) (hsz : 0 < sz)
  (ha : ArrAt m0 m v e sz es) (hx : ElsP u b off sz xs) (ho : ElsOK sz xs) (hn : xs.length = n) (hn0 : 0 < n) (hb : (es.length + n) * bt ≤ 140737488355328) (hb2 : es.length + n ≤ 9223372036854775807)
  (k : ∀ v' m', ArrAt m0 m' v' e sz (es ++ xs) → G P fn Post (nx (adv P st) v') u m') : G P fn Post st u m := by
 refine G.big (K := fun v' u' m' => u' = u ∧ ArrAt m0 m' v' e sz (es ++ xs)) h (by simp) (fun env op hv => (view_app (P := P) (o := ⟨none, op, 0, "", #[], none⟩) hv).2.1) (.inr fun env op hv => (view_app (P := P) (o := ⟨none, op, 0, "", #[], none⟩) hv).1) (fun env o hview w hgd => ?_) (fun v' u' m' _ hk => ?_)
 ·obtain ⟨_, _, t, hi, hex⟩ := view_app (P := P) hview
  obtain ⟨v', w', m', h1, h2, h3, h4⟩ := append_world (P := P) m0 es xs v b off n c o.type hi hz hzs hsz ha ho hn hn0 hb hb2 hgd (hx.cells hsz ho hgd.pu)
  exact does_value (by rw [hex, h1]; rfl) ⟨u, m', h2, h3, rfl, h4⟩
 ·obtain ⟨rfl, hk⟩ := hk
  exact k v' m' hk
end rules
end Go.Proofs.YtpdboaedoimahaaGreatDoor
end
section
set_option linter.unusedSectionVars false
set_option linter.unusedSimpArgs false
namespace Go.Proofs.YtpdboaedoimahaaGreatDoor
variable [Flag]
open Go.RowKit
section fill
theorem fill_els {sz : Nat} : ∀ (es : List Value) (k : Nat) (cells : Array Value), ElsOK sz es → (k + es.length) * sz ≤ cells.size →
  Instr.fill (fun i => some (i * sz, sz)) cells (es.zipIdx k |>.map fun p => (p.2, p.1)) = some (cells.toList.take (k * sz) ++ flat es ++ cells.toList.drop ((k + es.length) * sz)).toArray
 | [], k, cells, _, h => by simp [Instr.fill, flat]
 | e :: es, k, cells, ho, h => by
  have h1 := (ho e (by simp)).1
  have ho' : ElsOK sz es := fun x hx => ho x (List.mem_cons_of_mem _ hx)
  have hm : (k + (es.length + 1)) * sz = k * sz + sz + es.length * sz := by rw [Nat.add_mul, Nat.add_mul]; omega
  simp only [List.length_cons] at h
  rw [hm] at h
  simp only [List.zipIdx_cons, List.map_cons]
  rw [fill_step _ _ _ (k * sz) sz _ _ rfl h1 (by omega)]
  rw [fill_els es (k + 1) _ ho' (by simp [h1]; rw [Nat.add_mul, Nat.add_mul]; omega)]
  congr 2
  have hl : (cells.toList.take (k * sz) ++ e.cells.toList).length = (k + 1) * sz := by simp [h1, Nat.add_mul]; omega
  have e1 : (cells.toList.take (k * sz) ++ e.cells.toList ++ cells.toList.drop (k * sz + sz)).toArray.toList.take ((k + 1) * sz) = cells.toList.take (k * sz) ++ e.cells.toList := by
   simp only [List.toList_toArray]; rw [← hl, List.take_left]
  have e2 : (cells.toList.take (k * sz) ++ e.cells.toList ++ cells.toList.drop (k * sz + sz)).toArray.toList.drop ((k + 1 + es.length) * sz) = cells.toList.drop ((k + (es.length + 1)) * sz) := by
   simp only [List.toList_toArray]
   rw [show (k + 1 + es.length) * sz = (k + 1) * sz + es.length * sz by rw [Nat.add_mul], ← hl, ← List.drop_drop, List.drop_left, List.drop_drop]
   congr 1; rw [hm]
  rw [e1, e2]
  simp [flat]
end fill
section rules
variable {P : Program} [Mixed P] {fn : Func} {Post : Spec} {st : List KI × S} {u m : PH}
theorem view_buildS {env : Operand → Value} {o : Op} {inf : Option (TypeId × Nat × Nat × Value)} {n : Nat} {ps : List (Nat × Value)} (h : viewOp P env o = .buildS inf n ps) : ∃ t qs, o = .buildSlice t n qs ∧ (qs.map fun (i, x) => (i, env x)) = ps.toArray ∧ elInfo P t = inf := by
 cases o <;> simp only [viewOp] at h <;> try cases h
 any_goals ((repeat' split at h) <;> cases h; done)
 ·exact ⟨_, _, rfl, by apply Array.ext'; simp, rfl⟩
theorem view_make {env : Operand → Value} {o : Op} {inf : Option (TypeId × Nat × Nat × Value)} {x y : Value} (h : viewOp P env o = .make inf x y) : ∃ t X Y, o = .makeSlice t X Y ∧ env X = x ∧ env Y = y ∧ elInfo P t = inf := by
 cases o <;> simp only [viewOp] at h <;> try cases h
 any_goals ((repeat' split at h) <;> cases h; done)
 ·exact ⟨_, _, _, rfl, rfl, rfl, rfl⟩
theorem view_store {env : Operand → Value} {o : Op} {sz : Option Nat} {x y : Value} (h : viewOp P env o = .store sz x y) : ∃ t X Y, o = .store t X Y ∧ env X = x ∧ env Y = y ∧ szB P t = sz := by
 cases o <;> simp only [viewOp] at h <;> try cases h
 any_goals ((repeat' split at h) <;> cases h; done)
 ·exact ⟨_, _, _, rfl, rfl, rfl, rfl⟩
theorem G.buildU (e : TypeId) (sz bt : Nat) (z : Value) (es : List Value) (h : stopV P (adv P st) = .buildS (some (e, sz, bt, z)) es.length (es.zipIdx.map fun p => (p.2, p.1))) (ho : ElsOK sz es) (hzs : z.cells.size = sz) (hsz : 0 < sz) (hn0 : 0 < es.length) (hb : es.length * sz ≤ 16777216)
  (k : ∀ g u', PH.le u u' → ElsP u' g 0 sz es → G P fn Post (nx (adv P st) (.slice (some ⟨g, 0, none⟩) es.length es.length)) u' m) : G P fn Post st u m := by
 refine G.big (K := fun v' u' m' => m' = m ∧ ∃ g, v' = .slice (some ⟨g, 0, none⟩) es.length es.length ∧ ElsP u' g 0 sz es) h (by simp) (fun env op hv => ?_) (.inl fun v u' m' hk => by rw [hk.1]; exact PH.le_refl _) (fun env o hview w hgd => ?_) (fun v' u' m' hle hk => ?_)
 ·obtain ⟨t, qs, rfl, _⟩ := view_buildS hv; rfl
 ·obtain ⟨t, qs, e1, e2, hi⟩ := view_buildS hview
  obtain ⟨dst, opp, type, pos, after, guard⟩ := o
  simp only at e1; subst e1
  obtain ⟨hu, i, hi1, hi2, rfl, rfl⟩ := elInfo_spec hi
  obtain ⟨g1, g2, g3, g4⟩ := hgd.newU (.cells (flat es).toArray e (0, 0))
  have hfl := flat_length ho
  have hne : es.length * i.size ≠ 0 := by have := Nat.mul_pos hn0 hsz; omega
  have hfill := fill_els es 0 ((Array.range (es.length * i.size)).map (z.cells[· % z.cells.size]!)) ho (by simp)
  have e0 : ((Array.range (es.length * i.size)).map (z.cells[· % z.cells.size]!)).toList.drop (es.length * i.size) = [] := by
   apply List.drop_eq_nil_of_le; simp
  simp only [Nat.zero_mul, List.take_zero, List.nil_append, Nat.zero_add, e0, List.append_nil] at hfill
  refine does_value (w' := w.alloc (.cells (flat es).toArray e (0, 0))) (v := .slice (some ⟨w.heap.size, 0, none⟩) es.length es.length) ?_ ⟨_, m, g1, g2, rfl, _, rfl, ?_⟩
  ·simp only [execOp, e2]
   simp [Instr.buildSlice, run_underlying hu, sizeOf, typeInfo, zeroValue, hi1, hi2, hne, hfill, newRow, show ¬ 16777216 < es.length * i.size by omega]
  ·intro j x hj ii y hy
   refine ⟨_, _, _, upd_same _ _ _, ?_⟩
   rw [List.getElem?_toArray, Nat.zero_add]
   exact flat_get ho hj hy
 ·obtain ⟨rfl, g, rfl, hk⟩ := hk
  exact k g u' hle hk
theorem G.make (e : TypeId) (sz bt : Nat) (z : Value) (n : Nat) (h : stopV P (adv P st) = .make (some (e, sz, bt, z)) (.int .i64 (n : Int)) (.int .i64 (n : Int))) (hz : z.cells.toList.all cellOK = true) (hzs : z.cells.size = sz) (hsz : 0 < sz)
    (hb : bt * n ≤ 281474976710656) (hb2 : n ≤ 9223372036854775807) (k : ∀ v' m', ArrAt m m' v' e sz (List.replicate n z) → (∃ a, v' = .slice (some a) n n) → G P fn Post (nx (adv P st) v') u m') : G P fn Post st u m := by
  refine G.big (K := fun v' u' m' => u' = u ∧ PH.le m m' ∧ ArrAt m m' v' e sz (List.replicate n z) ∧ ∃ a, v' = .slice (some a) n n) h (by simp) (fun env op hv => by obtain ⟨t, X, Y, rfl, _⟩ := view_make hv; rfl) (.inl fun v u' m' hk => hk.2.1) (fun env o hview w hgd => ?_) (fun v' u' m' hle hk => ?_)
  · obtain ⟨t, X, Y, e1, e2, e3, hi⟩ := view_make hview
    obtain ⟨dst, opp, type, pos, after, guard⟩ := o
    simp only at e1; subst e1
    obtain ⟨hu, i, hi1, hi2, rfl, rfl⟩ := elInfo_spec hi
    have hb' : (i.bytes : Int) * (n : Int) ≤ 281474976710656 := by have : ((i.bytes * n : Nat) : Int) ≤ 281474976710656 := by omega
                                                                   rwa [Int.natCast_mul] at this
    have hr := run_make (P := P) w t e i z hu hi1 hi2 .i64 .i64 n n (by omega) (Int.le_refl _) hb' (by omega)
    simp only [Int.toNat_natCast] at hr
    obtain ⟨g1, g2, g3, g4⟩ := hgd.newM (t := e) (madeCells_ok hz (n * i.size) (by omega))
    have hok : ElsOK i.size (List.replicate n z) := fun x hx => by
      rw [List.eq_of_mem_replicate hx]
      exact ⟨hzs, fun y hy => by rw [List.all_eq_true] at hz; exact hz y hy⟩
    have hflat : (flat (List.replicate n z)).toArray = madeCells z.cells (n * i.size) := by
      apply Array.ext
      · rw [size_madeCells, List.size_toArray, flat_length hok, List.length_replicate]
      · intro j h1 h2
        rw [size_madeCells] at h2
        have hlt : j % i.size < i.size := Nat.mod_lt _ hsz
        have hq : j / i.size < n := (Nat.div_lt_iff_lt_mul hsz).2 h2
        have hget := flat_get hok (j := j / i.size) (i := j % i.size) (e := z) (x := z.cells[j % i.size]'(by omega)) (by simp [hq]) (by simp)
        rw [show j / i.size * i.size + j % i.size = j by rw [Nat.mul_comm]; exact Nat.div_add_mod _ _] at hget
        have : (flat (List.replicate n z)).toArray[j]? = some z.cells[j % i.size] := by rw [List.getElem?_toArray]; exact hget
        rw [Array.getElem?_eq_getElem h1] at this
        have h3 := Option.some.inj this
        rw [h3]
        simp only [madeCells, Array.getElem_map, Array.getElem_range, hzs]
        rw [getElem!_pos z.cells _ (by omega)]
    refine does_value (w' := w.alloc (.cells (madeCells z.cells (n * i.size)) e (0, 0))) (v := .slice (some ⟨w.heap.size, 0, none⟩) n n) ?_ ⟨u, _, g1, g2, rfl, le_upd _ g3, ⟨hok, .inr ⟨w.heap.size, n, [], g3, ?_, by simp, by simp, ?_, by simp⟩⟩, _, rfl⟩
    · simp only [execOp, e2, e3]
      simp [hr]
    · rw [List.append_nil, hflat]
    · rw [List.append_nil, flat_length hok, List.length_replicate]
  · obtain ⟨rfl, _, hk, ha⟩ := hk
    exact k v' m' hk ha
theorem flat_set {sz : Nat} : ∀ {es : List Value} {j : Nat} {e : Value}, ElsOK sz es → e.cells.size = sz → j < es.length → flat (es.set j e) = (flat es).take (j * sz) ++ e.cells.toList ++ (flat es).drop (j * sz + sz)
 | [], j, e, _, _, h => by simp at h
 | d :: es, j, e, ho, he, h => by
  have hd := (ho d (by simp)).1
  have e1 : ∀ d (l : List Value), flat (d :: l) = d.cells.toList ++ flat l := fun d l => by simp [flat]
  cases j with
  | zero =>
   rw [List.set_cons_zero, e1, e1]
   have : d.cells.toList.length = sz := by simpa using hd
   simp only [Nat.zero_mul, List.take_zero, List.nil_append, Nat.zero_add]
   rw [← this, List.drop_left]
  | succ j =>
   rw [List.set_cons_succ, e1, e1, flat_set (sz := sz) (fun x hx => ho x (List.mem_cons_of_mem _ hx)) he (by simpa using h)]
   have hl : d.cells.toList.length = sz := by simpa using hd
   rw [List.take_append, List.drop_append, hl]
   have a1 : (j + 1) * sz - sz = j * sz := by rw [Nat.add_mul]; omega
   have a2 : (j + 1) * sz + sz - sz = j * sz + sz := by rw [Nat.add_mul]; omega
   have b1 : d.cells.toList.take ((j + 1) * sz) = d.cells.toList := List.take_of_length_le (by rw [hl, Nat.add_mul]; omega)
   have b2 : d.cells.toList.drop ((j + 1) * sz + sz) = [] := List.drop_eq_nil_of_le (by rw [hl, Nat.add_mul]; omega)
   rw [a1, a2, b1, b2]
   simp
theorem ElsOK.set {sz : Nat} {es : List Value} (h : ElsOK sz es) {j : Nat} {e : Value} (he : e.cells.size = sz ∧ ∀ x ∈ e.cells.toList, cellOK x = true) : ElsOK sz (es.set j e) := by
 intro x hx
 rcases List.mem_or_eq_of_mem_set hx with hx | rfl
 ·exact h x hx
 ·exact he
theorem G.storeA {t : TypeId} (sz : Nat) (m0 : PH) (es : List Value) (b n c j : Nat) (e : Value) (h : stopV P (adv P st) = .store (some sz) (.pointer (some ⟨b, 0 + j * sz, none⟩)) e) (ha : ArrAt m0 m (.slice (some ⟨b, 0, none⟩) n c) t sz es) (hj : j < es.length) (he : e.cells.size = sz) (hc : e.cells.toList.all cellOK = true)
  (k : ∀ m', ArrAt m0 m' (.slice (some ⟨b, 0, none⟩) n c) t sz (es.set j e) → G P fn Post (nx (adv P st) undef) u m') : G P fn Post st u m := by
 refine G.big (K := fun v' u' m' => u' = u ∧ v' = undef ∧ ArrAt m0 m' (.slice (some ⟨b, 0, none⟩) n c) t sz (es.set j e)) h (by simp) (fun env op hv => ?_) (.inr fun env op hv => ?_) (fun env o hview w hgd => ?_) (fun v' u' m' _ hk => ?_)
 ·obtain ⟨t', X, Y, rfl, _⟩ := view_store hv; rfl
 ·obtain ⟨t', X, Y, rfl, _⟩ := view_store hv; rfl
 ·obtain ⟨t', X, Y, e1, e2, e3, ht⟩ := view_store hview
  obtain ⟨dst, opp, type, pos, after, guard⟩ := o
  simp only at e1; subst e1
  rw [List.all_eq_true] at hc
  rcases ha.2 with ⟨hv, _⟩ | ⟨g, cap, rest, hg0, rfl, hv, hcap, hlen, hrest⟩
  ·simp at hv
  ·simp only [Value.slice.injEq, Option.some.injEq, Addr.mk.injEq, and_true] at hv
   obtain ⟨rfl, rfl, rfl⟩ := hv
   have hgw := hgd.pm b _ (upd_same _ _ _)
   have hfe := flat_length ha.1
   have hjm : j * sz + sz ≤ es.length * sz := by
    have := Nat.mul_le_mul_right sz (show j + 1 ≤ es.length by omega)
    rw [Nat.add_mul] at this; omega
   have hst := run_storeCells_at P b (j * sz) t e.cells.toList 0 (flat es ++ rest).toArray w hgw (by simp [he, hfe]; omega) (fun x hx => cellOK_one (hc x hx))
   simp only [Nat.add_zero, Array.length_toList, he, List.toList_toArray] at hst
   have ecells : (flat es ++ rest).take (j * sz) ++ e.cells.toList ++ (flat es ++ rest).drop (j * sz + sz) = flat (es.set j e) ++ rest := by
    rw [flat_set ha.1 he hj, List.take_append_of_le_length (by omega), List.drop_append_of_le_length (by omega)]
    simp
   rw [ecells] at hst
   have hok := ha.1.set (j := j) (e := e) ⟨he, hc⟩
   have hcell : ∀ x ∈ (flat (es.set j e) ++ rest).toArray.toList, cellOK x = true := by
    intro x hx
    simp only [List.toList_toArray, List.mem_append] at hx
    exact hx.elim (flat_ok hok x) (hrest x)
   obtain ⟨g1, g2⟩ := hgd.setM (upd_same _ _ _) hcell
   rw [upd_upd] at g1 g2
   unfold OpDoes
   have hex : (execOp env ⟨dst, .store t' X Y, type, pos, after, guard⟩).run P w = .ok .skip (w.setRow b (flat (es.set j e) ++ rest).toArray) := by
    simp only [execOp, e2, e3]
    simp [Instr.storeAt, Instr.sureAddr, storeVar, run_sizeOf' ht, he, hst]
   rw [hex]
   refine ⟨u, _, g1, g2, rfl, rfl, hok, .inr ⟨b, c, rest, hg0, rfl, by simp, by simpa using hcap, ?_, hrest⟩⟩
   simp only [List.length_append, flat_length hok, List.length_set, hfe] at hlen ⊢
   exact hlen
 ·obtain ⟨rfl, rfl, hk⟩ := hk
  exact k m' hk
theorem ArrAt.el {m0 : PH} {t : TypeId} {sz : Nat} {es : List Value} {b n c j : Nat} {e : Value} (ha : ArrAt m0 m (.slice (some ⟨b, 0, none⟩) n c) t sz es) (hj : es[j]? = some e) : ElP m b (0 + j * sz) e := by
 rcases ha.2 with ⟨hv, _⟩ | ⟨g, cap, rest, hg0, rfl, hv, hcap, hlen, hrest⟩
 ·simp at hv
 ·simp only [Value.slice.injEq, Option.some.injEq, Addr.mk.injEq, and_true] at hv
  obtain ⟨rfl, rfl, rfl⟩ := hv
  intro i x hx
  refine ⟨_, _, _, upd_same _ _ _, ?_⟩
  rw [List.getElem?_toArray, Nat.zero_add]
  have := flat_get ha.1 hj hx
  rw [List.getElem?_append_left (by obtain ⟨h, _⟩ := List.getElem?_eq_some_iff.1 this; exact h)]; exact this
theorem ArrAt.len {m0 : PH} {t : TypeId} {sz : Nat} {es : List Value} {a : Option Addr} {n c : Nat} (ha : ArrAt m0 m (.slice a n c) t sz es) : n = es.length := by
 rcases ha.2 with ⟨hv, rfl, _⟩ | ⟨g, cap, rest, hg0, rfl, hv, _⟩
 ·simp at hv; simp [hv.2.1]
 ·simp at hv; exact hv.2.1
theorem ArrAt.ptr {m0 : PH} {t : TypeId} {sz : Nat} {es : List Value} {v : Value} (ha : ArrAt m0 m v t sz es) (h : es ≠ []) : ∃ b c, v = .slice (some ⟨b, 0, none⟩) es.length c := by
 rcases ha.2 with ⟨_, rfl, _⟩ | ⟨g, cap, rest, hg0, rfl, hv, _⟩
 ·exact absurd rfl h
 ·exact ⟨g, cap, hv⟩
def ListP (u : PH) (v : Value) (sz : Nat) (es : List Value) : Prop := ∃ a c, v = .slice a es.length c ∧ es.length ≤ c ∧ ∀ j e, es[j]? = some e → ∃ b off, a = some ⟨b, off, none⟩ ∧ ElP u b (off + j * sz) e
theorem ListP.mono {u u' : PH} {v : Value} {sz : Nat} {es : List Value} (h : ListP u v sz es) (hl : PH.le u u') : ListP u' v sz es := by
 obtain ⟨a, c, h1, h2, h3⟩ := h
 exact ⟨a, c, h1, h2, fun j e hj => by obtain ⟨b, off, e1, e2⟩ := h3 j e hj; exact ⟨b, off, e1, e2.mono hl⟩⟩
theorem ListP.nil (u : PH) (a : Option Addr) (c sz : Nat) : ListP u (.slice a 0 c) sz [] := ⟨a, c, rfl, Nat.zero_le _, fun j e h => by simp at h⟩
theorem G.give {t : TypeId} {sz : Nat} (m0 : PH) (es : List Value) (v : Value) (h : noReg (ctl P 100 st).1 = true) (ha : ArrAt m0 m v t sz es) (h0 : ∀ g, Post.m0 g = none ∨ m0 g ≠ none) (k : ∀ u', PH.le u u' → ListP u' v sz es → G P fn Post (ctl P 100 st) u' m0) : G P fn Post st u m := by
 refine ⟨ctl_sound 100 st ?_⟩
 rcases ha.2 with ⟨rfl, rfl, rfl⟩ | ⟨g, cap, rest, hg0, rfl, rfl, hcap, hlen, hrest⟩
 ·exact (k u (PH.le_refl _) (ListP.nil _ _ _ _)).out
 ·have hle : ∀ o, u g = none → PH.le u (u.upd g o) := fun o hu => le_upd o hu
  rw [Sym.ofNo h]
  intro c ρ a w hm0 hr
  have hgw := hr.gd.pm g _ (upd_same _ _ _)
  have hug : u g = none := by
   rcases hr.gd.ap g with e | e
   ·exact e
   ·rw [upd_same] at e; cases e
  have hnew : c.w0.heap.size ≤ g := by
   rcases Nat.lt_or_ge g c.w0.heap.size with hlt | hge
   ·have hpm : c.m0 g = none := by
     rw [hm0]
     rcases h0 g with e | e
     ·exact e
     ·exact absurd hg0 e
    have := hr.gr.ms g hlt hpm
    rw [upd_same] at this; cases this
   ·exact hge
  have hk := k (u.upd g (.cells (flat es ++ rest).toArray t (0, 0))) (hle _ hug) ⟨_, _, rfl, hcap, fun j e hj => ⟨g, 0, rfl, fun i x hx => ⟨_, _, _, upd_same _ _ _, by
   rw [List.getElem?_toArray, Nat.zero_add]
   have := flat_get ha.1 hj hx
   rw [List.getElem?_append_left (by obtain ⟨h, _⟩ := List.getElem?_eq_some_iff.1 this; exact h)]; exact this⟩⟩⟩
  have hk := hk.out
  rw [Sym.ofNo h] at hk
  refine hk c ρ a w hm0 ⟨hr.sz, hr.tm, hr.df.of fun r e _ hu hm => (by
   have hne : r ≠ g := fun e' => (by rw [e', upd_same] at hm; cases hm)
   rw [upd_ne _ _ hne] at hm
   exact ⟨e, by rw [upd_ne _ _ hne]; exact hu, hm⟩), fun kk b hb => ?_, hr.inj, hr.lv, ⟨fun g' o hg => ?_, fun g' o hg => ?_, fun g' => ?_, fun g' cs t' fr j z hg hj => ?_⟩, ⟨hr.gr.sz, hr.gr.old, fun g' hg => ?_, fun g' hg hm => ?_, hr.gr.io, hr.gr.dr⟩⟩
  ·obtain ⟨e1, e2, e3, e4⟩ := hr.box kk b hb
   have hne : ρ kk ≠ g := fun e => by rw [e, upd_same] at e4; cases e4
   refine ⟨e1, e2, by rw [upd_ne _ _ hne]; exact e3, ?_⟩
   rw [upd_ne _ _ hne] at e4; exact e4
  ·by_cases e : g' = g
   ·subst e; rw [upd_same] at hg; rw [hgw]; exact hg
   ·rw [upd_ne _ _ e] at hg; exact hr.gd.pu g' o hg
  ·refine hr.gd.pm g' o ?_
   rw [upd_ne _ _ (fun e => by rw [e, hg0] at hg; cases hg)]; exact hg
  ·by_cases e : g' = g
   ·subst e; exact .inr hg0
   ·rw [upd_ne _ _ e]
    have := hr.gd.ap g'
    rw [upd_ne _ _ e] at this; exact this
  ·by_cases e : g' = g
   ·subst e; rw [upd_same, ← hgw]; exact hg
   ·rw [upd_ne _ _ e]; exact hr.gd.cl g' cs t' fr j z hg hj
  ·rw [upd_ne _ _ (by omega)]; exact hr.gr.us g' hg
  ·have := hr.gr.ms g' hg hm
   rw [upd_ne _ _ (by omega)] at this; exact this
end rules
end Go.Proofs.YtpdboaedoimahaaGreatDoor
end
