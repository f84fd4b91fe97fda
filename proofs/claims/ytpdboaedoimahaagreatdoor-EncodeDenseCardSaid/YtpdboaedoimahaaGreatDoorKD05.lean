/- Joined out of parts of one proof by a program: contracts of the functions that the statement reaches, and the plain facts behind them. -/
import Derived.Test.YtpdboaedoimahaaGreatDoorKD04
import Derived.Lib.TrimByte
import Derived.Lib.ItoaNum
import Derived.Laws.IdiomStrings
import Derived.Shelf.Strings.Builder1
import Derived.Shelf.Strings.Builder2
import Derived.Shelf.Small.Bits
import Derived.Shelf.Small.Wraps
import Derived.Shelf.Strings.BuilderF
import Derived.Shelf.Strings.BuilderK
import Derived.Shelf.Strings.Builder2Cap
import Derived.Shelf.Strconv.Itoa0
import Derived.Shelf.Strconv.Itoa1
import Derived.Shelf.LaysM
import Derived.Shelf.Strconv.Itoa2
import Derived.Shelf.Strconv.Itoa3
import Derived.Shelf.Strconv.Lower
import Derived.Shelf.Strconv.ParseUint10
import Derived.Shelf.Strconv.ParseUintEmpty
import Derived.Shelf.Strconv.ParseUint10b64
import Derived.Shelf.Strconv.ParseUint10b32
import Derived.Shelf.Strconv.ParseUint10b16
import Derived.Shelf.Strconv.ParseUint10b8
import Derived.Shelf.Strconv.ParseUint10At
import Derived.Ground.MpProg
import Derived.Shelf.Pu.ParseUintPublic10
import Derived.Shelf.Strings.Search1
import Derived.Shelf.Strings.Search2
import Derived.Shelf.Strings.Cut
import Derived.Shelf.Strings.Shaped
import Derived.Shelf.Strings.Prefix
import Derived.Shelf.Bits.Mul64
import Derived.Shelf.Strings.Repeat
import Derived.Shelf.Strings.BuilderCap
import Derived.Test.YtpdboaedoimahaaGreatDoorProg
import Derived.Lib.AppendIntMem
import Derived.Lib.AtoiErrMem
import Derived.Lib.ConvBytes
set_option linter.unusedVariables false
set_option linter.unusedSimpArgs false
set_option linter.unusedSectionVars false
section
set_option linter.unusedSectionVars false
set_option linter.unusedVariables false
namespace Go.Proofs.YtpdboaedoimahaaGreatDoor
open Go.RowKit
def QP (u : PH) (v : Value) (q : Rat) : Prop :=
 ∃ a n c a' n' c', v = .agg #[.bool (decide (q.num < 0)), .slice a n c, .bool false, .slice a' n' c'] ∧ IntsP u (.slice a n c) (limbs q.num.natAbs) ∧ IntsP u (.slice a' n' c') (limbs q.den)
theorem QP.mono {u u' : PH} {v : Value} {q : Rat} (h : QP u v q) (hl : PH.le u u') : QP u' v q := by
 obtain ⟨a, n, c, a', n', c', h1, h2, h3⟩ := h; exact ⟨a, n, c, a', n', c', h1, h2.mono hl, h3.mono hl⟩
theorem QP.opn {u : PH} {v : Value} {q : Rat} (h : QP u v q) : ∃ b a n c a' n' c', v = .agg #[.bool b, .slice a n c, .bool false, .slice a' n' c'] ∧ b = decide (q.num < 0) ∧ BigP u (.agg #[.bool b, .slice a n c]) q.num ∧ BigP u (.agg #[.bool false, .slice a' n' c']) (q.den : Int) := by
 obtain ⟨a, n, c, a', n', c', rfl, h2, h3⟩ := h
 exact ⟨_, a, n, c, a', n', c', rfl, rfl, ⟨a, n, c, rfl, h2⟩, ⟨a', n', c', by rw [decide_eq_false (by omega)], h3⟩⟩
theorem QP.mk {u : PH} {q : Rat} {y z : Int} {b b' : Bool} {a a' : Option Addr} {n c n' c' : Nat} (h1 : BigP u (.agg #[.bool b, .slice a n c]) y) (h2 : BigP u (.agg #[.bool b', .slice a' n' c']) z) (hy : q.num = y) (hz : (q.den : Int) = z) :
  QP u (.agg #[.bool b, .slice a n c, .bool b', .slice a' n' c']) q := by
 obtain ⟨_, _, _, e1, i1⟩ := h1
 obtain ⟨_, _, _, e2, i2⟩ := h2
 subst hy hz
 rw [decide_eq_false (by omega)] at e2
 simp only [Value.agg.injEq, Array.mk.injEq, List.cons.injEq, Value.bool.injEq, Value.slice.injEq, and_true] at e1 e2
 obtain ⟨rfl, rfl, rfl, rfl⟩ := e1
 obtain ⟨rfl, rfl, rfl, rfl⟩ := e2
 exact ⟨_, _, _, _, _, _, rfl, i1, i2⟩
theorem tdiv_gcd_l (y : Int) (z : Nat) : y.tdiv (Nat.gcd y.natAbs z : Nat) = y / (Nat.gcd y.natAbs z : Nat) := by
 apply Int.tdiv_eq_ediv_of_dvd
 exact Int.ofNat_dvd_left.2 (Nat.gcd_dvd_left _ _)
theorem tdiv_gcd_r (y : Nat) (z : Int) : z.tdiv (Nat.gcd y z.natAbs : Nat) = z / (Nat.gcd y z.natAbs : Nat) := by
 apply Int.tdiv_eq_ediv_of_dvd
 exact Int.ofNat_dvd_left.2 (Nat.gcd_dvd_right _ _)
theorem new_pos {y z : Int} (hz : 0 < z) : (Rat.divInt y z).num = y.tdiv (Nat.gcd y.natAbs z.natAbs : Nat) ∧ ((Rat.divInt y z).den : Int) = z.tdiv (Nat.gcd y.natAbs z.natAbs : Nat) ∧ 0 < z.tdiv (Nat.gcd y.natAbs z.natAbs : Nat) := by
 have h := divInt_gcd (y := y) hz rfl
 have e : z = ((z.natAbs : Nat) : Int) := by omega
 have h3 : ((Rat.divInt y z).den : Int) = z.tdiv (Nat.gcd y.natAbs z.natAbs : Nat) := by
  rw [h.2, tdiv_gcd_r, Int.natCast_ediv]; congr 1; exact e.symm
 refine ⟨by rw [h.1, tdiv_gcd_l], h3, ?_⟩
 rw [← h3]; have := (Rat.divInt y z).den_pos; omega
theorem new_neg {y z : Int} (hz : z < 0) : (Rat.divInt y z).num = -(y.tdiv (Nat.gcd y.natAbs z.natAbs : Nat)) ∧ ((Rat.divInt y z).den : Int) = -(z.tdiv (Nat.gcd y.natAbs z.natAbs : Nat)) ∧ z.tdiv (Nat.gcd y.natAbs z.natAbs : Nat) < 0 := by
 have h := new_pos (y := -y) (z := -z) (by omega)
 rw [divInt_neg_neg, Int.natAbs_neg, Int.natAbs_neg, Int.neg_tdiv, Int.neg_tdiv] at h
 exact ⟨h.1, h.2.1, by omega⟩
theorem nl_tdiv {y : Int} {g k : Nat} (h : nl y.natAbs ≤ k) : nl (y.tdiv g).natAbs ≤ k := by
 refine Nat.le_trans (nl_mono ?_) h
 rw [Int.natAbs_tdiv]; exact Nat.div_le_self _ _
theorem refOf0 {u : PH} {z : Int} (h1 : -9223372036854775807 ≤ z) (h2 : z ≤ 9223372036854775807) : Fn0 Tryz.prog 62 [.int .i64 z] u fun v u' => QP u' v (z : Rat) := by
 refine Fn0.of Tryz.func62 (by kernel_rfl) (by kernel_rfl) ?_
 refine G.call0 _ _ (by kernel_rfl) Tryz.call119 (bigOf0 h1 h2) ?_
 intro v1 u1 l1 k1
 obtain ⟨b1, a1, n1, c1, rfl, _, _⟩ := k1.opn
 refine G.call0 _ _ (by kernel_rfl) Tryz.call119 (bigOf0 (n := 1) (by omega) (by omega)) ?_
 intro v2 u2 l2 k2
 obtain ⟨b2, a2, n2, c2, rfl, _, _⟩ := k2.opn
 exact G.ret (.agg #[.bool b1, .slice a1 n1 c1, .bool b2, .slice a2 n2 c2]) (by kernel_rfl) ⟨rfl, QP.mk (k1.mono l2) k2 rfl rfl⟩
theorem refNew0 {u : PH} {x x' : Value} {y z : Int} (hx : BigP u x y) (hx' : BigP u x' z) (sy : nl y.natAbs ≤ 100000000000) (sz : nl z.natAbs ≤ 100000000000) (hz : z ≠ 0) :
  Fn0 Tryz.prog 169 [x, x'] u fun v u' => QP u' v (Rat.divInt y z) := by
 obtain ⟨b, a, n, c, rfl, _, _⟩ := hx.opn
 obtain ⟨b', a', n', c', rfl, _, hi'⟩ := hx'.opn
 obtain ⟨rfl, _⟩ := hi'.len
 have sz' : (limbs z.natAbs).length ≤ 100000000000 := sz
 have hzp : 0 < (limbs z.natAbs).length := len_pos.2 (by omega)
 have hg0 : 0 < Nat.gcd y.natAbs z.natAbs := Nat.gcd_pos_of_pos_right _ (by omega)
 have hgs : nl (Nat.gcd y.natAbs z.natAbs) ≤ 100000000000 := Nat.le_trans (nl_mono (Nat.gcd_le_right _ (by omega))) sz
 refine Fn0.of Tryz.func169 (by kernel_rfl) (by kernel_rfl) ?_
 refine G.eqlF ((limbs z.natAbs).length : Int) 0 (by kernel_rfl) (by omega) ?_
 refine G.call0 _ _ (by kernel_rfl) Tryz.call168 (bigGcd0 hx hx' sy sz) ?_
 intro v1 u1 l1 k1
 obtain ⟨b1, a1, n1, c1, rfl, _, _⟩ := k1.opn
 refine G.call0 _ _ (by kernel_rfl) Tryz.call204 (bigQuo0 (hx.mono l1) k1 sy (by simpa using hgs) (by omega)) ?_
 rintro v2 u2 l2 ⟨va, vb, rfl, k2, k2'⟩
 obtain ⟨b2, a2, n2, c2, rfl, _, _⟩ := k2.opn
 obtain ⟨b3, a3, n3, c3, rfl, _, _⟩ := k2'.opn
 refine G.call0 _ _ (by kernel_rfl) Tryz.call204 (bigQuo0 (hx'.mono (l1.trans l2)) (k1.mono l2) sz (by simpa using hgs) (by omega)) ?_
 rintro v4 u4 l4 ⟨va, vb, rfl, k4, k4'⟩
 obtain ⟨b4, a4, n4, c4, rfl, hb4, _⟩ := k4.opn
 obtain ⟨b5, a5, n5, c5, rfl, _, _⟩ := k4'.opn
 have k2 := k2.mono l4
 rcases Int.lt_or_gt_of_ne hz with hn | hp
 ·obtain ⟨e1, e2, e3⟩ := new_neg (y := y) hn
  rw [decide_eq_true e3] at hb4
  subst hb4
  refine G.call0 _ _ (by kernel_rfl) Tryz.call205 (bigMinus1 k2 (Nat.le_trans (nl_tdiv sy) (by omega))) ?_
  intro v6 u6 l6 k6
  obtain ⟨b6, a6, n6, c6, rfl, _, _⟩ := k6.opn
  refine G.call0 _ _ (by kernel_rfl) Tryz.call205 (bigMinus1 (k4.mono l6) (Nat.le_trans (nl_tdiv sz) (by omega))) ?_
  intro v7 u7 l7 k7
  obtain ⟨b7, a7, n7, c7, rfl, _, _⟩ := k7.opn
  exact G.ret (.agg #[.bool b6, .slice a6 n6 c6, .bool b7, .slice a7 n7 c7]) (by kernel_rfl) ⟨rfl, QP.mk (k6.mono l7) k7 e1 e2⟩
 ·obtain ⟨e1, e2, e3⟩ := new_pos (y := y) hp
  rw [decide_eq_false (by omega)] at hb4
  subst hb4
  exact G.ret (.agg #[.bool b2, .slice a2 n2 c2, .bool false, .slice a4 n4 c4]) (by kernel_rfl) ⟨rfl, QP.mk k2 k4 e1 e2⟩
theorem refZero0 {u : PH} {x : Value} {q : Rat} (h : QP u x q) (hs : nl q.num.natAbs ≤ 100000000000) : Fn0 Tryz.prog 108 [x] u fun v u' => v = .bool (decide (q.num = 0)) := by
 obtain ⟨b, a, n, c, a', n', c', rfl, hb, h1, h2⟩ := h.opn
 obtain ⟨_, _, _, e1, hi⟩ := h1
 simp only [Value.agg.injEq, Array.mk.injEq, List.cons.injEq, Value.bool.injEq, Value.slice.injEq, and_true] at e1
 obtain ⟨_, rfl, rfl, rfl⟩ := e1
 obtain ⟨rfl, _⟩ := hi.len
 have hs' : (limbs q.num.natAbs).length ≤ 100000000000 := hs
 have hp := len_pos (n := q.num.natAbs)
 refine Fn0.of Tryz.func108 (by kernel_rfl) (by kernel_rfl) ?_
 by_cases h0 : q.num = 0
 ·refine G.eqlT ((limbs q.num.natAbs).length : Int) 0 (by kernel_rfl) (by rw [h0]; simp [limbs_zero]) ?_
  exact G.ret (.bool true) (by kernel_rfl) ⟨rfl, by simp [h0]⟩
 ·have h3 : 0 < (limbs q.num.natAbs).length := hp.2 (by omega)
  refine G.eqlF ((limbs q.num.natAbs).length : Int) 0 (by kernel_rfl) (by omega) ?_
  exact G.ret (.bool false) (by kernel_rfl) ⟨rfl, by simp [h0]⟩
theorem refMul0 {u : PH} {x x' : Value} {q r : Rat} (hx : QP u x q) (hx' : QP u x' r) (s1 : Sz q 10000000000) (s2 : Sz r 10000000000) :
  Fn0 Tryz.prog 114 [x, x'] u fun v u' => QP u' v (q * r) := by
 obtain ⟨b, a, n, c, a', n', c', rfl, _, hn, hd⟩ := hx.opn
 obtain ⟨b2, a2, n2, c2, a2', n2', c2', rfl, _, hn2, hd2⟩ := hx'.opn
 refine Fn0.of Tryz.func114 (by kernel_rfl) (by kernel_rfl) ?_
 refine G.call0 _ _ (by kernel_rfl) Tryz.call170 (bigMul0 hn hn2 (Nat.le_trans s1.1 (by omega)) (Nat.le_trans s2.1 (by omega))) ?_
 intro v3 u3 l3 k3
 obtain ⟨b3, a3, n3, c3, rfl, _, _⟩ := k3.opn
 refine G.call0 _ _ (by kernel_rfl) Tryz.call170 (bigMul0 (hd.mono l3) (hd2.mono l3) (Nat.le_trans s1.2 (by omega)) (Nat.le_trans s2.2 (by omega))) ?_
 intro v4 u4 l4 k4
 obtain ⟨b4, a4, n4, c4, rfl, _, _⟩ := k4.opn
 refine G.call0 _ _ (by kernel_rfl) Tryz.call169 (refNew0 (k3.mono l4) k4 (Nat.le_trans (nl_mulZ s1.1 s2.1) (by omega)) (Nat.le_trans (nl_mulZ (k := 10000000000) (by simpa using s1.2) (by simpa using s2.2)) (by omega)) (den_ne q r)) ?_
 intro v5 u5 l5 k5
 rw [mul_new] at k5
 obtain ⟨b5, a5, n5, c5, a5', n5', c5', rfl, _⟩ := k5.opn
 exact G.ret (.agg #[.bool b5, .slice a5 n5 c5, .bool false, .slice a5' n5' c5']) (by kernel_rfl) ⟨rfl, k5⟩
theorem refAdd0 {u : PH} {x x' : Value} {q r : Rat} (hx : QP u x q) (hx' : QP u x' r) (s1 : Sz q 10000000000) (s2 : Sz r 10000000000) :
  Fn0 Tryz.prog 113 [x, x'] u fun v u' => QP u' v (q + r) := by
 obtain ⟨b, a, n, c, a', n', c', rfl, _, hn, hd⟩ := hx.opn
 obtain ⟨b2, a2, n2, c2, a2', n2', c2', rfl, _, hn2, hd2⟩ := hx'.opn
 have d1 : nl ((q.den : Int)).natAbs ≤ 10000000000 := by simpa using s1.2
 have d2 : nl ((r.den : Int)).natAbs ≤ 10000000000 := by simpa using s2.2
 refine Fn0.of Tryz.func113 (by kernel_rfl) (by kernel_rfl) ?_
 refine G.call0 _ _ (by kernel_rfl) Tryz.call170 (bigMul0 hn hd2 (Nat.le_trans s1.1 (by omega)) (Nat.le_trans d2 (by omega))) ?_
 intro v3 u3 l3 k3
 obtain ⟨b3, a3, n3, c3, rfl, _, _⟩ := k3.opn
 refine G.call0 _ _ (by kernel_rfl) Tryz.call170 (bigMul0 (hn2.mono l3) (hd.mono l3) (Nat.le_trans s2.1 (by omega)) (Nat.le_trans d1 (by omega))) ?_
 intro v4 u4 l4 k4
 obtain ⟨b4, a4, n4, c4, rfl, _, _⟩ := k4.opn
 refine G.call0 _ _ (by kernel_rfl) Tryz.call171 (bigAdd0 (k3.mono l4) k4 (Nat.le_trans (nl_mulZ s1.1 d2) (by omega)) (Nat.le_trans (nl_mulZ s2.1 d1) (by omega))) ?_
 intro v6 u6 l6 k6
 obtain ⟨b6, a6, n6, c6, rfl, _, _⟩ := k6.opn
 refine G.call0 _ _ (by kernel_rfl) Tryz.call170 (bigMul0 (hd.mono ((l3.trans l4).trans l6)) (hd2.mono ((l3.trans l4).trans l6)) (Nat.le_trans d1 (by omega)) (Nat.le_trans d2 (by omega))) ?_
 intro v7 u7 l7 k7
 obtain ⟨b7, a7, n7, c7, rfl, _, _⟩ := k7.opn
 refine G.call0 _ _ (by kernel_rfl) Tryz.call169 (refNew0 (k6.mono l7) k7 (Nat.le_trans (nl_addZ (nl_mulZ s1.1 d2) (nl_mulZ s2.1 d1)) (by omega)) (Nat.le_trans (nl_mulZ d1 d2) (by omega)) (den_ne q r)) ?_
 intro v5 u5 l5 k5
 rw [add_new] at k5
 obtain ⟨b5, a5, n5, c5, a5', n5', c5', rfl, _⟩ := k5.opn
 exact G.ret (.agg #[.bool b5, .slice a5 n5 c5, .bool false, .slice a5' n5' c5']) (by kernel_rfl) ⟨rfl, k5⟩
end Go.Proofs.YtpdboaedoimahaaGreatDoor
end
section
set_option linter.unusedSectionVars false
set_option linter.unusedSimpArgs false
set_option linter.unusedVariables false
namespace Go.Proofs.YtpdboaedoimahaaGreatDoor
variable [Flag]
open Go.RowKit
abbrev mkS (l : List UInt8) : ByteArray := ⟨l.toArray⟩
theorem mkS_inj {a b : List UInt8} : mkS a = mkS b ↔ a = b := by
 constructor
 ·intro h; injection h with h; simpa using h
 ·rintro rfl; rfl
theorem mkS_toList (l : List UInt8) : (mkS l).toList = l := by
 rw [Go.Lib.toList_data]
theorem bytes_beq (a b : List UInt8) : ((mkS a).toList == (mkS b).toList) = decide (a = b) := by
 rw [mkS_toList, mkS_toList, Bool.eq_iff_iff]; simp
section rules
variable {P : Program} [Mixed P] {fn : Func} {Post : Spec} {st : List KI × S} {u m : PH}
def stopQ (Q : Op → Bool) (st : List KI × S) : Bool :=
 match st.1 with
 | .reg _ ops _ (i :: _) :: _ => match ops[i]? with
  | some o => Q o.op
  | none => false
 | _ => false
theorem G.askQ (Q : Op → Bool) {V : Stop} {v : Value} (h : stopV P (adv P st) = V) (hq : stopQ Q (adv P st) = true) (hV : V ≠ .other) (hr : ∀ env (o : Oper), viewOp P env o.op = V → Q o.op = true → ∀ w, (loadOp o.op = true → Part u w ∧ Part m w) → (execOp env o).run P w = .ok (.value v) w)
  (k : G P fn Post (nx (adv P st) v) u m) : G P fn Post st u m := by
 refine G.stp ?_
 obtain ⟨id, ops, dr, i, l, kk, s, o, e, ho, hg, hd, hv, hs, hview, hnx⟩ := stopV_spec h hV
 have k := k.out
 rw [hnx] at k
 have hQ : Q o.op = true := by
  rw [e] at hq; simpa [stopQ, ho] using hq
 rw [e]
 exact ⟨Ob.ask ho hg hd hv hs (view_al hview hV) (fun w hp => hr _ o hview hQ w hp) k⟩
def isStrSlice (P : Program) : Op → Bool
 | .slice t .. => match P.underlying t with | some .string => true | _ => false
 | _ => false
theorem guard_str {op : BinOp} {x y : ByteArray} (t : TypeId) (X Y : Operand) (w : World) : (eqGuard op t X Y (.string x) (.string y)).run P w = .ok () w := by
 unfold eqGuard; split <;> simp
theorem G.eqST (a b : List UInt8) (h : stopV P (adv P st) = .bin .eql (.string (mkS a)) (.string (mkS b))) (hab : a = b) (k : G P fn Post (nx (adv P st) (.bool true)) u m) : G P fn Post st u m :=
 G.bin _ h guard_str (fun t w => by simp [binOp, Op.stringOp, bytes_beq, hab]) k
theorem G.eqSF (a b : List UInt8) (h : stopV P (adv P st) = .bin .eql (.string (mkS a)) (.string (mkS b))) (hab : a ≠ b) (k : G P fn Post (nx (adv P st) (.bool false)) u m) : G P fn Post st u m :=
 G.bin _ h guard_str (fun t w => by simp only [binOp, Op.stringOp, bytes_beq, decide_eq_false hab]; rfl) k
theorem G.neST (a b : List UInt8) (h : stopV P (adv P st) = .bin .neq (.string (mkS a)) (.string (mkS b))) (hab : a ≠ b) (k : G P fn Post (nx (adv P st) (.bool true)) u m) : G P fn Post st u m :=
 G.bin _ h guard_str (fun t w => by simp only [binOp, Op.stringOp, bytes_beq, decide_eq_false hab]; rfl) k
theorem G.neSF (a b : List UInt8) (h : stopV P (adv P st) = .bin .neq (.string (mkS a)) (.string (mkS b))) (hab : a = b) (k : G P fn Post (nx (adv P st) (.bool false)) u m) : G P fn Post st u m :=
 G.bin _ h guard_str (fun t w => by simp only [binOp, Op.stringOp, bytes_beq, decide_eq_true hab]; rfl) k
theorem mkS_append (a b : List UInt8) : mkS a ++ mkS b = mkS (a ++ b) := by
 rw [mkS, mkS, ByteArray.mk_append_mk]
theorem G.addS (a b : List UInt8) (h : stopV P (adv P st) = .bin .add (.string (mkS a)) (.string (mkS b))) (hl : a.length + b.length ≤ 9223372036854775807) (k : G P fn Post (nx (adv P st) (.string (mkS (a ++ b)))) u m) : G P fn Post st u m :=
 G.bin _ h guard_str (fun t w => by
  have h1 : ¬ (((mkS a).size + (mkS b).size : Nat) : Int) > IntKind.i64.max := by
   rw [Go.Lib.size_mk, Go.Lib.size_mk]; simp [IntKind.max, IntKind.signed, IntKind.bits]; omega
  simp only [binOp, Op.stringOp]
  rw [if_neg h1, mkS_append]; rfl) k
theorem view_index {env : Operand → Value} {o : Op} {t : Option TypeDesc} {x i : Value} (h : viewOp P env o = .index t x i) : ∃ t' X I, o = .index t' X I ∧ env X = x ∧ env I = i ∧ P.underlying t' = t := by
 cases o <;> simp only [viewOp] at h <;> try cases h
 any_goals ((repeat' split at h) <;> cases h; done)
 ·exact ⟨_, _, _, rfl, rfl, rfl, rfl⟩
theorem view_conv {env : Operand → Value} {o : Op} {s d : Option TypeDesc} {x : Value} (h : viewOp P env o = .conv s d x) : ∃ s' d' X, o = .convert s' d' X ∧ env X = x ∧ P.underlying s' = s ∧ P.underlying d' = d := by
 cases o <;> simp only [viewOp] at h <;> try cases h
 any_goals ((repeat' split at h) <;> cases h; done)
 ·exact ⟨_, _, _, rfl, rfl, rfl, rfl⟩
theorem G.idxS (l : List UInt8) (i : Nat) (b : UInt8) (h : stopV P (adv P st) = .index (some .string) (.string (mkS l)) (.int .i64 (i : Int))) (hb : l[i]? = some b)
  (k : G P fn Post (nx (adv P st) (.int .u8 (b.toNat : Int))) u m) : G P fn Post st u m := by
 refine G.ask h (by simp) (fun env o hview w _ => ?_) k
 obtain ⟨t, X, I, e1, e2, e3, e4⟩ := view_index hview
 obtain ⟨dst, opp, type, pos, after, guard⟩ := o
 simp only at e1; subst e1
 obtain ⟨hi, hb⟩ := List.getElem?_eq_some_iff.1 hb
 have e5 : (mkS l)[i]? = some b := by
  have h6 : i < (mkS l).size := by rw [Go.Lib.size_mk]; exact hi
  rw [getElem?_pos (mkS l) i h6]
  congr 1
 have h0 : (0 : Int) ≤ (i : Int) := by omega
 simp [execOp, e2, e3, Instr.index, run_underlying e4, asIntOf, e5, h0]
theorem G.sliceSTo (l : List UInt8) (n : Nat) (h : stopV P (adv P st) = .slice none (.string (mkS l)) none (some (.int .i64 (n : Int))) none) (hq : stopQ (isStrSlice P) (adv P st) = true) (hn : n ≤ l.length)
  (k : G P fn Post (nx (adv P st) (.string (mkS (l.take n)))) u m) : G P fn Post st u m := by
 refine G.askQ _ h hq (by simp) (fun env o hview hQ w hp => ?_) k
 obtain ⟨t, X, L, H, M, e1, e2, e3, e4, e5, hsz⟩ := view_slice hview
 obtain ⟨dst, opp, type, pos, after, guard⟩ := o
 simp only at e1; subst e1
 simp only [isStrSlice] at hQ
 split at hQ
 ·rename_i hu
  have h1 : (0 : Int) ≤ n ∧ (n : Int) ≤ (mkS l).size := by rw [Go.Lib.size_mk]; omega
  simp only [execOp, e2, e3, e4, e5]
  simp only [Instr.sliceAt, Sem.run_bind, run_underlying hu, Result.andThen_ok, Instr.slice, Instr.sliceBounds, Instr.sliceBound, asIntOf, Sem.run_pure, if_true, Option.isSome, Sem.run_ite, h1, and_self, Int.toNat_natCast, Nat.sub_zero]
  simp [Go.Lib.extract_mk]
 ·cases hQ
theorem G.sliceSFrom (l : List UInt8) (n : Nat) (h : stopV P (adv P st) = .slice none (.string (mkS l)) (some (.int .i64 (n : Int))) none none) (hq : stopQ (isStrSlice P) (adv P st) = true) (hn : n ≤ l.length)
  (k : G P fn Post (nx (adv P st) (.string (mkS (l.drop n)))) u m) : G P fn Post st u m := by
 refine G.askQ _ h hq (by simp) (fun env o hview hQ w hp => ?_) k
 obtain ⟨t, X, L, H, M, e1, e2, e3, e4, e5, hsz⟩ := view_slice hview
 obtain ⟨dst, opp, type, pos, after, guard⟩ := o
 simp only at e1; subst e1
 simp only [isStrSlice] at hQ
 split at hQ
 ·rename_i hu
  have h1 : (0 : Int) ≤ n ∧ (n : Int) ≤ (mkS l).size := by rw [Go.Lib.size_mk]; omega
  simp only [execOp, e2, e3, e4, e5]
  simp only [Instr.sliceAt, Sem.run_bind, run_underlying hu, Result.andThen_ok, Instr.slice, Instr.sliceBounds, Instr.sliceBound, asIntOf, Sem.run_pure, if_true, Option.isSome, Sem.run_ite, h1, and_self, Int.toNat_natCast, Nat.sub_zero]
  have h2 : (mkS l).extract n (mkS l).size = mkS (l.drop n) := by
   rw [Go.Lib.extract_mk, Go.Lib.size_mk, List.take_of_length_le (by simp)]
  simp [h2]
 ·cases hQ
theorem G.convI (k0 k1 k2 : IntKind) (x z : Int) (h : stopV P (adv P st) = .conv (some (.int k0)) (some (.int k1)) (.int k2 x)) (hz : k1.wrap x = z)
  (k : G P fn Post (nx (adv P st) (.int k1 z)) u m) : G P fn Post st u m := by
 refine G.ask h (by simp) (fun env o hview w _ => ?_) k
 obtain ⟨s, d, X, e1, e2, e3, e4⟩ := view_conv hview
 obtain ⟨dst, opp, type, pos, after, guard⟩ := o
 simp only at e1; subst e1
 simp [execOp, convert, e2, run_underlying e3, run_underlying e4, Conv.intToInt, hz]
theorem u8_wrap {z : Int} (h1 : 0 ≤ z) (h2 : z < 256) : IntKind.u8.wrap z = z := by
 simp only [IntKind.wrap, IntKind.signed, IntKind.bits]; simp; omega
theorem G.sub8 (x y z : Int) (h : stopV P (adv P st) = .bin .sub (.int .u8 x) (.int .u8 y)) (hz : x - y = z) (h1 : 0 ≤ z) (h2 : z < 256)
  (k : G P fn Post (nx (adv P st) (.int .u8 z)) u m) : G P fn Post st u m :=
 G.bin _ h guard_int (fun t w => by simp [binOp, Op.intArith, hz, u8_wrap h1 h2]) k
def bytesV (l : List UInt8) : List Value := l.map fun b => Value.int .u8 (b.toNat : Int)
theorem bytesV_length (l : List UInt8) : (bytesV l).length = l.length := by simp [bytesV]
theorem bytesV_append (l l' : List UInt8) : bytesV (l ++ l') = bytesV l ++ bytesV l' := by simp [bytesV]
theorem bytesV_ok (l : List UInt8) : ElsOK 1 (bytesV l) := by
 intro e he
 simp only [bytesV, List.mem_map] at he
 obtain ⟨b, _, rfl⟩ := he
 exact ⟨rfl, fun x hx => by simp [Value.cells] at hx; subst hx; rfl⟩
theorem ArrAt.take {m0 : PH} {t : TypeId} {sz : Nat} {es : List Value} {a : Option Addr} {n c k : Nat} (ha : ArrAt m0 m (.slice a n c) t sz es) (hk : k ≤ es.length) : ArrAt m0 m (.slice a k c) t sz (es.take k) := by
 refine ⟨fun e he => ha.1 e (List.mem_of_mem_take he), ?_⟩
 rcases ha.2 with ⟨hv, rfl, hm⟩ | ⟨g, cap, rest, hg0, rfl, hv, hcap, hlen, hrest⟩
 ·left
  simp at hv hk; obtain ⟨rfl, rfl, rfl⟩ := hv; subst hk; exact ⟨rfl, rfl, hm⟩
 ·right
  simp only [Value.slice.injEq] at hv
  obtain ⟨rfl, rfl, rfl⟩ := hv
  have e : flat es = flat (es.take k) ++ flat (es.drop k) := by rw [← flat_append, List.take_append_drop]
  refine ⟨g, c, flat (es.drop k) ++ rest, hg0, by rw [← List.append_assoc, ← e], by simp; omega, by simp; omega, by rw [← List.append_assoc, ← e]; exact hlen, fun x hx => ?_⟩
  rcases List.mem_append.1 hx with hx | hx
  ·simp only [flat, List.mem_flatMap] at hx
   obtain ⟨e', he', hx⟩ := hx
   exact (ha.1 e' (List.mem_of_mem_drop he')).2 x hx
  ·exact hrest x hx
theorem ArrAt.cap {m0 : PH} {t : TypeId} {sz : Nat} {es : List Value} {a : Option Addr} {n c : Nat} (ha : ArrAt m0 m (.slice a n c) t sz es) : n ≤ c := by
 rcases ha.2 with ⟨hv, rfl, hm⟩ | ⟨g, cap, rest, hg0, rfl, hv, hcap, hlen, hrest⟩
 ·simp at hv; omega
 ·simp at hv; omega
theorem G.convB (m0 : PH) (t e : TypeId) (l : List UInt8) (b n c : Nat) (h : stopV P (adv P st) = .conv (some (.slice e)) (some .string) (.slice (some ⟨b, 0, none⟩) n c)) (he : P.underlying e = some (.int .u8))
  (ha : ArrAt m0 m (.slice (some ⟨b, 0, none⟩) n c) t 1 (bytesV l)) (k : G P fn Post (nx (adv P st) (.string (mkS l))) u m) : G P fn Post st u m := by
 refine G.ask h (by simp) (fun env o hview w hp => ?_) k
 obtain ⟨s, d, X, e1, e2, e3, e4⟩ := view_conv hview
 obtain ⟨dst, opp, type, pos, after, guard⟩ := o
 simp only at e1; subst e1
 have hm := (hp rfl).2
 have hn := ha.len
 rw [bytesV_length] at hn
 subst hn
 have := run_convert_bytes_back (P := P) w s d e ⟨b, 0, none⟩ c l e3 he e4 (fun j hj => by
  have h1 := ha.el (j := j) (e := .int .u8 (l[j].toNat : Int)) (by simp [bytesV, hj])
  have h2 := (h1 0 (.int .u8 (l[j].toNat : Int)) (by simp [Value.cells])).cell hm
  rw [addr_add]; simpa using h2)
 simp [execOp, e2, this]
end rules
end Go.Proofs.YtpdboaedoimahaaGreatDoor
end
section
set_option linter.unusedVariables false
namespace Go.Proofs.YtpdboaedoimahaaGreatDoor
open Go.Lib
def ld (n k : Nat) : List UInt8 := (List.range k).map (dg n)
theorem ld_succ (n k : Nat) : ld n (k + 1) = ld n k ++ [dg n k] := by simp [ld, List.range_succ]
theorem ld_length (n k : Nat) : (ld n k).length = k := by simp [ld]
theorem ld_get {n k j : Nat} (h : j < k) : (ld n k)[j]? = some (dg n j) := by simp [ld, h]
theorem ld_take {n k j : Nat} (h : j ≤ k) : (ld n k).take j = ld n j := by
 apply List.ext_getElem?
 intro i
 rw [List.getElem?_take]
 split
 ·rw [ld_get (by omega), ld_get (by omega)]
 ·rw [List.getElem?_eq_none (by rw [ld_length]; omega)]
theorem ld_rev (n : Nat) : (ld n (nDigits n)).reverse = decDigits n := by
 rw [decDigits_eq]
 apply List.ext_getElem?
 intro i
 by_cases h : i < nDigits n
 ·rw [List.getElem?_reverse (by rw [ld_length]; exact h), ld_length, ld_get (by omega)]
  simp [h]
 ·rw [List.getElem?_eq_none (by simp [ld_length]; omega), List.getElem?_eq_none (by simp; omega)]
theorem limbs_getD (n i : Nat) : (limbs n).getD i 0 = n / 1000000000 ^ i % 1000000000 := by
 induction i generalizing n with
 | zero =>
  by_cases h : n = 0
  ·subst h; simp [limbs_zero]
  ·rw [limbs_pos h]; simp
 | succ i ih =>
  by_cases h : n = 0
  ·subst h; simp [limbs_zero]
  ·rw [limbs_pos h, List.getD_cons_succ, ih, Nat.pow_succ, Nat.mul_comm, Nat.div_div_eq_div_mul]
theorem ten9 (i : Nat) : (1000000000 : Nat) ^ i = 10 ^ (9 * i) := by rw [Nat.pow_mul]
theorem dg_limb (n i t : Nat) (ht : t < 9) : dg n (9 * i + t) = UInt8.ofNat (48 + (limbs n).getD i 0 / 10 ^ t % 10) := by
 rw [limbs_getD, ten9]
 have e : (1000000000 : Nat) = 10 ^ t * 10 ^ (9 - t) := by rw [← Nat.pow_add, show t + (9 - t) = 9 by omega]
 rw [e, Nat.mod_mul_right_div_self, Nat.mod_mod_of_dvd _ (by rw [show 9 - t = (8 - t) + 1 by omega, Nat.pow_succ]; exact Nat.dvd_mul_left _ _), Nat.div_div_eq_div_mul, ← Nat.pow_add]
 rfl
theorem u8_ofNat {k : Nat} (h : k < 256) : (UInt8.ofNat k).toNat = k := by simp; omega
theorem dg_toNat (n j : Nat) : (dg n j).toNat = 48 + n / 10 ^ j % 10 := by
 unfold dg
 have : n / 10 ^ j % 10 < 10 := Nat.mod_lt _ (by omega)
 exact u8_ofNat (by omega)
theorem top_zero {n k : Nat} (h : n < 10 ^ (k + 1)) : n / 10 ^ k % 10 = 0 ↔ n < 10 ^ k := by
 have hp : 0 < 10 ^ k := Nat.pow_pos (by omega)
 have h1 : n / 10 ^ k < 10 := by rw [Nat.div_lt_iff_lt_mul hp, Nat.mul_comm, ← Nat.pow_succ]; exact h
 rw [Nat.mod_eq_of_lt h1, Nat.div_eq_zero_iff]
 constructor
 ·rintro (h | h)
  ·omega
  ·exact h
 ·exact .inr
theorem lt_pow_limbs (n : Nat) : n < 10 ^ (9 * (limbs n).length) := by rw [← ten9]; exact lt_pow_nl n
theorem nDigits_shift {n j : Nat} (h : 10 ^ j ≤ n) : nDigits n = j + nDigits (n / 10 ^ j) := by
 induction j generalizing n with
 | zero => simp
 | succ j ih =>
  have hp : 0 < 10 ^ j := Nat.pow_pos (by omega)
  rw [Nat.pow_succ] at h
  rw [nDigits_big (by omega), ih (n := n / 10) (by rw [Nat.le_div_iff_mul_le (by omega)]; exact h), Nat.pow_succ, Nat.mul_comm (10 ^ j), ← Nat.div_div_eq_div_mul]; omega
theorem nDigits_top {n : Nat} (h : n ≠ 0) : nDigits n = 9 * ((limbs n).length - 1) + nDigits ((limbs n).getD ((limbs n).length - 1) 0) := by
 have h1 := pow_le_of_nl h
 rw [ten9] at h1
 rw [limbs_getD, nDigits_shift h1, ten9, Nat.mod_eq_of_lt]; rfl
 rw [Nat.div_lt_iff_lt_mul (Nat.pow_pos (by omega))]
 have h2 := lt_pow_nl n
 have h3 : 0 < nl n := by
  rcases Nat.eq_zero_or_pos (nl n) with h0 | h0
  ·rw [h0] at h2; simp at h2; omega
  ·exact h0
 have e : (1000000000 : Nat) * 10 ^ (9 * ((limbs n).length - 1)) = 1000000000 ^ nl n := by
  rw [← ten9, Nat.mul_comm, ← Nat.pow_succ]; congr 1; show nl n - 1 + 1 = nl n; omega
 rw [e]; exact h2
def IsDig (l : List UInt8) : Prop := ∀ b ∈ l, 48 ≤ b.toNat ∧ b.toNat ≤ 57
def rdA (a : Nat) (l : List UInt8) : Nat := l.foldl (fun a b => 10 * a + (b.toNat - 48)) a
def rd (l : List UInt8) : Nat := rdA 0 l
theorem rdA_append (a : Nat) (l l' : List UInt8) : rdA a (l ++ l') = rdA (rdA a l) l' := by simp [rdA]
theorem rdA_eq (a : Nat) (l : List UInt8) : rdA a l = a * 10 ^ l.length + rd l := by
 induction l generalizing a with
 | nil => simp [rdA, rd]
 | cons b l ih =>
  have e1 : rdA a (b :: l) = rdA (10 * a + (b.toNat - 48)) l := rfl
  have e2 : rd (b :: l) = rdA (10 * 0 + (b.toNat - 48)) l := rfl
  rw [e1, e2, ih, ih (10 * 0 + (b.toNat - 48)), List.length_cons, Nat.pow_succ, Nat.mul_zero, Nat.zero_add, ← Nat.add_assoc]
  congr 1
  rw [Nat.add_mul]; congr 1
  rw [Nat.mul_comm 10 a, Nat.mul_assoc, Nat.mul_comm 10]
theorem rd_append (l l' : List UInt8) : rd (l ++ l') = rd l * 10 ^ l'.length + rd l' := by rw [rd, rdA_append, rdA_eq]; rfl
theorem rd_lt {l : List UInt8} (h : IsDig l) : rd l < 10 ^ l.length := by
 induction l with
 | nil => simp [rd, rdA]
 | cons b l ih =>
  have e2 : rd (b :: l) = rdA (10 * 0 + (b.toNat - 48)) l := rfl
  have hb := h b (by simp)
  have := ih fun x hx => h x (by simp [hx])
  rw [e2, rdA_eq, List.length_cons, Nat.pow_succ]
  have h2 : (10 * 0 + (b.toNat - 48)) * 10 ^ l.length ≤ 9 * 10 ^ l.length := Nat.mul_le_mul_right _ (by omega)
  omega
theorem dec_dig (n : Nat) : IsDig (decDigits n) := by
 rw [decDigits_eq]
 intro b hb
 simp only [List.mem_map] at hb
 obtain ⟨t, _, rfl⟩ := hb
 rw [dg_toNat]; have := Nat.mod_lt (n / 10 ^ (nDigits n - 1 - t)) (show 0 < 10 by omega); omega
theorem rd_dec (n : Nat) : rd (decDigits n) = n := by
 induction n using Nat.strongRecOn with
 | ind n ih =>
  rw [decDigits]
  by_cases h : n < 10
  ·rw [dif_pos h]
   have : (UInt8.ofNat (48 + n)).toNat = 48 + n := u8_ofNat (by omega)
   show 10 * 0 + ((UInt8.ofNat (48 + n)).toNat - 48) = n
   omega
  ·rw [dif_neg h, rd_append, ih _ (by omega)]
   have : (UInt8.ofNat (48 + n % 10)).toNat = 48 + n % 10 := u8_ofNat (by omega)
   show n / 10 * 10 ^ 1 + (10 * 0 + ((UInt8.ofNat (48 + n % 10)).toNat - 48)) = n
   omega
theorem dec_ne_nil (n : Nat) : decDigits n ≠ [] := by
 intro h; have := decDigits_length n; rw [h] at this; have := nDigits_pos n; simp at *; omega
theorem dec_head (n : Nat) : (decDigits n)[0]? = some (dg n (nDigits n - 1)) := by
 rw [decDigits_eq]; have h : 0 < nDigits n := nDigits_pos n; simp [h]
theorem pow_le_nDigits {n : Nat} (h : n ≠ 0) : 10 ^ (nDigits n - 1) ≤ n := by
 induction n using Nat.strongRecOn with
 | ind n ih =>
  by_cases h1 : n < 10
  ·rw [nDigits_small h1]; simp; omega
  ·rw [nDigits_big h1]
   have h2 := ih (n / 10) (by omega) (by omega)
   have h3 := nDigits_pos (n / 10)
   rw [show nDigits (n / 10) + 1 - 1 = (nDigits (n / 10) - 1) + 1 by omega, Nat.pow_succ]
   omega
theorem dec_first {n : Nat} (h : n ≠ 0) : 49 ≤ (dg n (nDigits n - 1)).toNat := by
 rw [dg_toNat]
 have h1 := nDigits_pos n
 have h2 := lt_pow_nDigits n
 rw [show nDigits n = (nDigits n - 1) + 1 by omega] at h2
 have h3 : ¬ _ := fun h0 => absurd ((top_zero h2).1 h0) (by have := pow_le_nDigits h; omega)
 omega
end Go.Proofs.YtpdboaedoimahaaGreatDoor
end
section
set_option linter.unusedSectionVars false
set_option linter.unusedVariables false
namespace Go.Proofs.YtpdboaedoimahaaGreatDoor
open Go.RowKit
theorem bigDigits0 {u : PH} {x : Value} {z : Int} (h : BigP u x z) (hs : nl z.natAbs ≤ 100000000000) : Fn0 Tryz.prog 203 [x] u fun v _ => v = .int .i64 (Lib.nDigits z.natAbs : Nat) := by
 obtain ⟨b, a, n, c, rfl, hb, hi⟩ := h.opn
 obtain ⟨rfl, _⟩ := hi.len
 have hs' : (limbs z.natAbs).length ≤ 100000000000 := hs
 refine Fn0.of Tryz.func203 (by kernel_rfl) (by kernel_rfl) ?_
 by_cases h0 : z.natAbs = 0
 ·refine G.eqlT ((limbs z.natAbs).length : Int) 0 (by kernel_rfl) (by rw [h0, limbs_zero]; rfl) ?_
  exact G.ret (.int .i64 1) (by kernel_rfl) ⟨rfl, by rw [h0, Lib.nDigits_small (by omega)]; rfl⟩
 ·have hp : 0 < (limbs z.natAbs).length := len_pos.2 (by omega)
  have htop := nDigits_top h0
  have hnz := getLast_limbs h0
  have hlow := (low_limbs z.natAbs).getD ((limbs z.natAbs).length - 1)
  generalize limbs z.natAbs = l at *
  generalize hN : Lib.nDigits z.natAbs = N at *
  have hle9 : ∀ k, k < 1000000000 → Lib.nDigits k ≤ 9 := by
   intro k hk
   rcases Nat.eq_zero_or_pos k with h | h
   ·subst h; rw [Lib.nDigits_small (by omega)]; omega
   ·have h1 := pow_le_nDigits (n := k) (by omega)
    have h2 : 10 ^ (Lib.nDigits k - 1) < 10 ^ 9 := Nat.lt_of_le_of_lt h1 (by omega)
    have h3 := (Nat.pow_lt_pow_iff_right (by omega : 1 < 10)).1 h2
    omega
  refine G.eqlF (l.length : Int) 0 (by kernel_rfl) (by omega) ?_
  refine G.sub (l.length : Int) 1 ((l.length - 1 : Nat) : Int) (by kernel_rfl) (by omega) (by omega) (by omega) ?_
  refine G.mul 9 ((l.length - 1 : Nat) : Int) ((9 * (l.length - 1) : Nat) : Int) (by kernel_rfl) (by omega) (by omega) (by omega) ?_
  refine G.sub (l.length : Int) 1 ((l.length - 1 : Nat) : Int) (by kernel_rfl) (by omega) (by omega) (by omega) ?_
  obtain ⟨bb, off, rfl, he⟩ := hi.at (j := l.length - 1) (by omega)
  refine G.addr bb off l.length c (l.length - 1) 1 (by kernel_rfl) (by omega) ?_
  refine G.loadU none bb (off + (l.length - 1) * 1) (.int .i64 (l.getD (l.length - 1) 0 : Nat)) (by kernel_rfl) (by kernel_rfl) he ?_
  have h9 := hle9 _ hlow
  refine G.loop (ι := Nat × Nat) (fun i => [(3, .v (.int .i64 (i.1 : Int))), (4, .v (.int .i64 (i.2 : Int)))]) (fun _ => [])
   (fun i _ m' => (i.1 + (if i.2 = 0 then 0 else Lib.nDigits i.2) = N ∧ i.2 < 1000000000) ∧ m' = PH.mt) (fun i => i.2) (9 * (l.length - 1), l.getD (l.length - 1) 0) (by kernel_rfl) (fun _ => by kernel_rfl) ⟨by kernel_rfl, by kernel_rfl, by kernel_rfl⟩ ⟨⟨by dsimp only; rw [if_neg hnz]; omega, hlow⟩, rfl⟩ ?_
  rintro J ⟨cn, k⟩ hJ u' m' hle ⟨⟨h1, h2⟩, rfl⟩
  simp only at h1 h2 hJ
  by_cases hk : k = 0
  ·subst hk
   refine G.gtrF ((0 : Nat) : Int) 0 (by kernel_rfl) (by omega) ?_
   exact G.ret (.int .i64 (cn : Int)) (by kernel_rfl) ⟨rfl, by simp at h1; rw [h1]⟩
  ·rw [if_neg hk] at h1
   refine G.gtrT (k : Int) 0 (by kernel_rfl) (by omega) ?_
   have hcn : cn + 1 ≤ 1000000000001 := by omega
   refine G.add (cn : Int) 1 ((cn + 1 : Nat) : Int) (by kernel_rfl) (by omega) (by omega) (by omega) ?_
   refine G.quo (k : Int) 10 ((k / 10 : Nat) : Int) (by kernel_rfl) (by omega) (by omega) (by omega) (by omega) ?_
   refine G.back (by kernel_rfl) (hJ (cn + 1, k / 10) _ _ _ ⟨by kernel_rfl, by kernel_rfl, by kernel_rfl⟩ hle ⟨⟨?_, by dsimp only; omega⟩, rfl⟩ (by dsimp only; omega))
   dsimp only
   by_cases hs : k < 10
   ·rw [Lib.nDigits_small hs] at h1; rw [if_pos (by omega)]; omega
   ·rw [Lib.nDigits_big hs] at h1; rw [if_neg (by omega)]; omega
structure RevSt (R l : List UInt8) (i : Nat) : Prop where
 len : l.length = R.length
 at_ : ∀ k, k < R.length → l[k]? = if k < i ∨ R.length - i ≤ k then R[R.length - 1 - k]? else R[k]?
theorem RevSt.start (R : List UInt8) : RevSt R R 0 := ⟨rfl, fun k hk => by rw [if_neg (by omega)]⟩
theorem RevSt.step {R l : List UInt8} {i : Nat} (h : RevSt R l i) (hi : i < R.length - 1 - i) : RevSt R ((l.set i (l.getD (R.length - 1 - i) 0)).set (R.length - 1 - i) (l.getD i 0)) (i + 1) := by
 have hl := h.len
 have e1 : l.getD (R.length - 1 - i) 0 = R.getD (R.length - 1 - i) 0 := by
  rw [List.getD_eq_getElem?_getD, h.at_ _ (by omega), if_neg (by omega), List.getD_eq_getElem?_getD]
 have e2 : l.getD i 0 = R.getD i 0 := by
  rw [List.getD_eq_getElem?_getD, h.at_ _ (by omega), if_neg (by omega), List.getD_eq_getElem?_getD]
 refine ⟨by simp [hl], fun k hk => ?_⟩
 rw [List.getElem?_set]
 split
 ·rename_i hk2
  subst hk2
  rw [if_pos (by simp; omega), if_pos (by omega), e2, show R.length - 1 - (R.length - 1 - i) = i by omega, List.getElem?_eq_getElem (by omega)]
  rw [List.getD_eq_getElem?_getD, List.getElem?_eq_getElem (by omega)]; rfl
 ·rename_i hk2
  rw [List.getElem?_set]
  split
  ·rename_i hk3
   subst hk3
   rw [if_pos (by omega), if_pos (by omega), e1]
   rw [List.getD_eq_getElem?_getD, List.getElem?_eq_getElem (by omega)]; rfl
  ·rename_i hk3
   rw [h.at_ k hk]
   by_cases hc : k < i ∨ R.length - i ≤ k
   ·rw [if_pos hc, if_pos (by omega)]
   ·rw [if_neg hc, if_neg (by omega)]
theorem RevSt.done {R l : List UInt8} {i : Nat} (h : RevSt R l i) (hi : ¬ i < R.length - 1 - i) : l = R.reverse := by
 apply List.ext_getElem?
 intro k
 by_cases hk : k < R.length
 ·rw [h.at_ k hk, List.getElem?_reverse hk]
  split
  ·rfl
  ·rename_i hc
   congr 1; omega
 ·rw [List.getElem?_eq_none (by rw [h.len]; omega), List.getElem?_eq_none (by simp; omega)]
theorem bytesV_get {l : List UInt8} {j : Nat} (h : j < l.length) : (bytesV l)[j]? = some (.int .u8 ((l.getD j 0).toNat : Int)) := by
 rw [bytesV, List.getElem?_map, List.getElem?_eq_getElem h, List.getD_eq_getElem?_getD, List.getElem?_eq_getElem h]; rfl
theorem bytesV_set (l : List UInt8) (j : Nat) (b : UInt8) : (bytesV l).set j (.int .u8 (b.toNat : Int)) = bytesV (l.set j b) := by simp [bytesV, List.map_set]
theorem itoa_neg {z : Int} (h : z < 0) : Lib.itoa z = 45 :: Lib.decDigits z.natAbs := by rw [Lib.itoa, if_pos h]
theorem itoa_nonneg {z : Int} (h : ¬ z < 0) : Lib.itoa z = Lib.decDigits z.natAbs := by rw [Lib.itoa, if_neg h]; congr 1; omega
set_option maxHeartbeats 2000000 in
theorem bigText0 {u : PH} {x : Value} {z : Int} (h : BigP u x z) (hs : nl z.natAbs ≤ 100000000000) : Fn0 Tryz.prog 120 [x] u fun v _ => v = .string (mkS (Lib.itoa z)) := by
 obtain ⟨b, a, n, c, rfl, hb, hi⟩ := h.opn
 obtain ⟨rfl, _⟩ := hi.len
 have hs' : (limbs z.natAbs).length ≤ 100000000000 := hs
 refine Fn0.of Tryz.func120 (by kernel_rfl) (by kernel_rfl) ?_
 by_cases h0 : z.natAbs = 0
 ·refine G.eqlT ((limbs z.natAbs).length : Int) 0 (by kernel_rfl) (by rw [h0, limbs_zero]; rfl) ?_
  exact G.ret (.string (mkS [48])) (by kernel_rfl) ⟨rfl, by rw [itoa_nonneg (by omega), h0, Lib.decDigits_one (by omega)]; rfl⟩
 have hp : 0 < (limbs z.natAbs).length := len_pos.2 (by omega)
 refine G.eqlF ((limbs z.natAbs).length : Int) 0 (by kernel_rfl) (by omega) ?_
 have hbd := lt_pow_limbs z.natAbs
 generalize hN : z.natAbs = N at *
 generalize hL : limbs N = l at *
 refine G.loop (ι := Nat × (Option Addr × Nat × Nat)) (fun i => [(1, .p 0 0), (3, .v (.slice i.2.1 i.2.2.1 i.2.2.2)), (4, .v (.int .i64 (i.1 : Int)))]) (fun _ => [(0, ⟨122, [.v (.bool b), .v (.slice a l.length c)]⟩)])
  (fun i _ m' => i.1 ≤ l.length ∧ ArrAt PH.mt m' (.slice i.2.1 i.2.2.1 i.2.2.2) 5 1 (bytesV (ld N (9 * i.1)))) (fun i => l.length - i.1) (0, (none, 0, 0)) (by kernel_rfl) (fun _ => by kernel_rfl) ⟨by kernel_rfl, by kernel_rfl, by kernel_rfl⟩ ⟨by simp, ArrAt.nil _ _ _⟩ ?_
 rintro J ⟨i, a1, n1, c1⟩ hJ u1 m1 hle ⟨hil, hA⟩
 simp only at hil hA hJ
 by_cases hlt : i < l.length
 ·refine G.lssT (i : Int) (l.length : Int) (by kernel_rfl) (by omega) ?_
  obtain ⟨bb, off, rfl, he⟩ := (hi.mono hle).at (j := i) (by omega)
  refine G.addr bb off l.length c i 1 (by kernel_rfl) (by omega) ?_
  refine G.loadU none bb (off + i * 1) (.int .i64 (l.getD i 0 : Nat)) (by kernel_rfl) (by kernel_rfl) he ?_
  have hlow : l.getD i 0 < 1000000000 := by rw [← hL]; exact (low_limbs N).getD i
  refine G.loop (ι := Nat × (Option Addr × Nat × Nat)) (fun q => [(1, .p 0 0), (3, .v (.slice q.2.1 q.2.2.1 q.2.2.2)), (4, .v (.int .i64 (i : Int))), (5, .v (.int .i64 ((l.getD i 0 / 10 ^ q.1 : Nat) : Int))), (6, .v (.int .i64 (q.1 : Int)))]) (fun _ => [(0, ⟨122, [.v (.bool b), .v (.slice (some ⟨bb, off, none⟩) l.length c)]⟩)])
   (fun q _ m' => q.1 ≤ 9 ∧ ArrAt PH.mt m' (.slice q.2.1 q.2.2.1 q.2.2.2) 5 1 (bytesV (ld N (9 * i + q.1)))) (fun q => 9 - q.1) (0, (a1, n1, c1)) (by kernel_rfl) (fun _ => by kernel_rfl) ⟨by kernel_rfl, by rw [Nat.pow_zero, Nat.div_one]; kernel_rfl, by kernel_rfl⟩ ⟨by simp, hA⟩ ?_
  clear hA
  rintro J2 ⟨t, a2, n2, c2⟩ hJ2 u2 m2 hle2 ⟨ht, hA⟩
  simp only at ht hA hJ2
  have hl2 := hA.len
  rw [bytesV_length, ld_length] at hl2
  by_cases ht9 : t < 9
  ·refine G.lssT (t : Int) 9 (by kernel_rfl) (by omega) ?_
   have hdv : l.getD i 0 / 10 ^ t < 1000000000 := Nat.lt_of_le_of_lt (Nat.div_le_self _ _) hlow
   have hdg : (Lib.dg N (9 * i + t)).toNat = 48 + l.getD i 0 / 10 ^ t % 10 := by
    rw [dg_limb N i t ht9, hL]; exact u8_ofNat (by omega)
   generalize hD : l.getD i 0 / 10 ^ t = D at hdv hdg ⊢
   refine G.rem ((D : Nat) : Int) 10 ((D % 10 : Nat) : Int) (by kernel_rfl) (by omega) (by omega) (by omega) (by omega) ?_
   refine G.add 48 ((D % 10 : Nat) : Int) ((Lib.dg N (9 * i + t)).toNat : Int) (by kernel_rfl) (by omega) (by omega) (by omega) ?_
   refine G.convI .i64 .u8 .i64 ((Lib.dg N (9 * i + t)).toNat : Int) ((Lib.dg N (9 * i + t)).toNat : Int) (by kernel_rfl) (u8_wrap (by omega) (by omega)) ?_
   refine G.buildU 5 1 1 (.int .u8 0) [.int .u8 ((Lib.dg N (9 * i + t)).toNat : Int)] (by kernel_rfl) (bytesV_ok [Lib.dg N (9 * i + t)]) rfl (by omega) (by simp) (by simp) ?_
   intro g u3 l3 e3
   refine G.append 5 1 1 (.int .u8 0) PH.mt (bytesV (ld N (9 * i + t))) [.int .u8 ((Lib.dg N (9 * i + t)).toNat : Int)] (.slice a2 n2 c2) g 0 1 1 (by kernel_rfl) rfl rfl (by omega) hA e3 (bytesV_ok [Lib.dg N (9 * i + t)]) rfl (by omega) (by rw [bytesV_length, ld_length]; omega) (by rw [bytesV_length, ld_length]; omega) ?_
   intro v4 m4 hA4
   rw [show bytesV (ld N (9 * i + t)) ++ [.int .u8 ((Lib.dg N (9 * i + t)).toNat : Int)] = bytesV (ld N (9 * i + (t + 1))) by rw [show 9 * i + (t + 1) = 9 * i + t + 1 by omega, ld_succ, bytesV_append]; rfl] at hA4
   obtain ⟨a4, c4, rfl⟩ := hA4.shape
   refine G.quo ((D : Nat) : Int) 10 ((l.getD i 0 / 10 ^ (t + 1) : Nat) : Int) (by kernel_rfl) (by omega) (by omega) (by omega) (by rw [Nat.pow_succ, ← Nat.div_div_eq_div_mul, hD]; omega) ?_
   refine G.add (t : Int) 1 ((t + 1 : Nat) : Int) (by kernel_rfl) (by omega) (by omega) (by omega) ?_
   exact G.back (by kernel_rfl) (hJ2 (t + 1, (a4, (bytesV (ld N (9 * i + (t + 1)))).length, c4)) _ _ _ ⟨by kernel_rfl, by kernel_rfl, by kernel_rfl⟩ (hle2.trans l3) ⟨by dsimp only; omega, hA4⟩ (by dsimp only; omega))
  ·have : t = 9 := by omega
   subst this
   refine G.lssF ((9 : Nat) : Int) 9 (by kernel_rfl) (by omega) ?_
   refine G.add (i : Int) 1 ((i + 1 : Nat) : Int) (by kernel_rfl) (by omega) (by omega) (by omega) ?_
   exact G.back (by kernel_rfl) (hJ (i + 1, (a2, n2, c2)) _ _ _ ⟨by kernel_rfl, by kernel_rfl, by kernel_rfl⟩ (hle.trans hle2) ⟨by dsimp only; omega, hA⟩ (by dsimp only; omega))
 ·have : i = l.length := by omega
  subst this
  refine G.lssF (l.length : Int) (l.length : Int) (by kernel_rfl) (by omega) ?_
  obtain ⟨bo, co, e⟩ := hA.ptr (by intro e; have := congrArg List.length e; rw [bytesV_length, ld_length, List.length_nil] at this; omega)
  rw [bytesV_length, ld_length] at e
  simp only [Value.slice.injEq] at e
  obtain ⟨rfl, rfl, rfl⟩ := e
  refine G.loop (ι := Nat) (fun k => [(1, .p 0 0), (3, .v (.slice (some ⟨bo, 0, none⟩) (k + 1) c1))]) (fun _ => [(0, ⟨122, [.v (.bool b), .v (.slice a l.length c)]⟩)])
   (fun k _ m' => (N < 10 ^ (k + 1) ∧ k + 1 ≤ 9 * l.length) ∧ ArrAt PH.mt m' (.slice (some ⟨bo, 0, none⟩) (k + 1) c1) 5 1 (bytesV (ld N (k + 1)))) (fun k => k) (9 * l.length - 1) (by kernel_rfl) (fun _ => by kernel_rfl) ⟨by kernel_rfl, by rw [show 9 * l.length - 1 + 1 = 9 * l.length by omega]; kernel_rfl, by kernel_rfl⟩ (by rw [show 9 * l.length - 1 + 1 = 9 * l.length by omega]; exact ⟨⟨hbd, Nat.le_refl _⟩, hA⟩) ?_
  clear hA hJ
  rintro J3 k hJ3 u3 m3 hle3 ⟨⟨hk, hk2⟩, hA⟩
  refine G.sub ((k + 1 : Nat) : Int) 1 (k : Int) (by kernel_rfl) (by omega) (by omega) (by omega) ?_
  refine G.addr bo 0 (k + 1) c1 k 1 (by kernel_rfl) (by omega) ?_
  refine G.loadM none bo (0 + k * 1) (.int .u8 ((Lib.dg N k).toNat : Int)) (by kernel_rfl) (by kernel_rfl) (hA.el (by rw [bytesV, List.getElem?_map, ld_get (by omega)]; rfl)) ?_
  have htz := top_zero hk
  have hdn := dg_toNat N k
  by_cases hz : N < 10 ^ k
  ·refine G.cmpG .eql .u8 ((Lib.dg N k).toNat : Int) 48 true (by kernel_rfl) rfl (by simp only [cmpZ, decide_eq_true_eq]; have := htz.2 hz; omega) ?_
   refine G.sub ((k + 1 : Nat) : Int) 1 (k : Int) (by kernel_rfl) (by omega) (by omega) (by omega) ?_
   have hco : k + 1 ≤ c1 := hA.cap
   refine G.sliceTo 1 (some ⟨bo, 0, none⟩) (k + 1) c1 k (by kernel_rfl) (by omega) ?_
   have hA' := hA.take (k := k) (by rw [bytesV_length, ld_length]; omega)
   rw [show (bytesV (ld N (k + 1))).take k = bytesV (ld N k) by rw [bytesV, ← List.map_take, ld_take (by omega)]; rfl] at hA'
   rcases k with _ | k
   ·simp at hz; omega
   ·exact G.back (by kernel_rfl) (hJ3 k _ _ _ ⟨by kernel_rfl, by kernel_rfl, by kernel_rfl⟩ hle3 ⟨⟨hz, by omega⟩, hA'⟩ (by omega))
  ·refine G.cmpG .eql .u8 ((Lib.dg N k).toNat : Int) 48 false (by kernel_rfl) rfl (by simp only [cmpZ, decide_eq_false_iff_not]; intro h; exact hz (htz.1 (by omega))) ?_
   have hkd : Lib.nDigits N = k + 1 := Lib.nDigits_unique k N (by omega) hk
   clear hJ3
   have hdr := ld_rev N
   rw [hkd] at hdr
   cases b
   ·have hzn : ¬ z < 0 := by simpa using hb.symm
    have hrev : (ld N (k + 1)).reverse = Lib.itoa z := by rw [hdr, itoa_nonneg hzn, hN]
    generalize hR : ld N (k + 1) = R at *
    generalize hnR : k + 1 = nR at *
    have hnb : nR ≤ 1000000000000 := by omega
    have hn1 : 1 ≤ nR := by omega
    have hRl := hA.len
    rw [bytesV_length] at hRl
    refine G.sub (nR : Int) 1 ((nR - 1 : Nat) : Int) (by kernel_rfl) (by omega) (by omega) (by omega) ?_
    refine G.loop (ι := Nat × List UInt8) (fun i => [(3, .v (.slice (some ⟨bo, 0, none⟩) nR c1)), (7, .v (.int .i64 (i.1 : Int))), (8, .v (.int .i64 ((nR - 1 - i.1 : Nat) : Int)))]) (fun _ => [])
     (fun i _ m' => i.1 ≤ nR - 1 ∧ RevSt R i.2 i.1 ∧ ArrAt PH.mt m' (.slice (some ⟨bo, 0, none⟩) nR c1) 5 1 (bytesV i.2)) (fun i => nR - i.1) (0, R) (by kernel_rfl) (fun _ => by kernel_rfl) ⟨by kernel_rfl, by kernel_rfl, by kernel_rfl⟩ ⟨by simp, RevSt.start R, hA⟩ ?_
    clear hA
    rintro J5 ⟨i, l⟩ hJ5 u5 m5 hle5 ⟨hi5, hst, hA⟩
    simp only at hi5 hst hA hJ5
    have hll := hst.len
    by_cases hij : i < nR - 1 - i
    ·refine G.lssT (i : Int) ((nR - 1 - i : Nat) : Int) (by kernel_rfl) (by omega) ?_
     refine G.addr bo 0 nR c1 (nR - 1 - i) 1 (by kernel_rfl) (by omega) ?_
     refine G.loadM none bo (0 + (nR - 1 - i) * 1) (.int .u8 ((l.getD (nR - 1 - i) 0).toNat : Int)) (by kernel_rfl) (by kernel_rfl) (hA.el (bytesV_get (by omega))) ?_
     refine G.addr bo 0 nR c1 i 1 (by kernel_rfl) (by omega) ?_
     refine G.loadM none bo (0 + i * 1) (.int .u8 ((l.getD i 0).toNat : Int)) (by kernel_rfl) (by kernel_rfl) (hA.el (bytesV_get (by omega))) ?_
     refine G.addr bo 0 nR c1 i 1 (by kernel_rfl) (by omega) ?_
     refine G.storeA 1 PH.mt (bytesV l) bo nR c1 i (.int .u8 ((l.getD (nR - 1 - i) 0).toNat : Int)) (by kernel_rfl) hA (by rw [bytesV_length]; omega) rfl rfl ?_
     intro m6 hA6
     rw [bytesV_set] at hA6
     refine G.addr bo 0 nR c1 (nR - 1 - i) 1 (by kernel_rfl) (by omega) ?_
     refine G.storeA 1 PH.mt _ bo nR c1 (nR - 1 - i) (.int .u8 ((l.getD i 0).toNat : Int)) (by kernel_rfl) hA6 (by rw [bytesV_length, List.length_set]; omega) rfl rfl ?_
     intro m7 hA7
     rw [bytesV_set] at hA7
     refine G.add (i : Int) 1 ((i + 1 : Nat) : Int) (by kernel_rfl) (by omega) (by omega) (by omega) ?_
     refine G.sub ((nR - 1 - i : Nat) : Int) 1 ((nR - 1 - (i + 1) : Nat) : Int) (by kernel_rfl) (by omega) (by omega) (by omega) ?_
     exact G.back (by kernel_rfl) (hJ5 (i + 1, (l.set i (l.getD (nR - 1 - i) 0)).set (nR - 1 - i) (l.getD i 0)) _ _ _ ⟨by kernel_rfl, by kernel_rfl, by kernel_rfl⟩ hle5 ⟨by dsimp only; omega, by dsimp only; rw [hRl] at hij ⊢; exact hst.step hij, hA7⟩ (by dsimp only; omega))
    ·refine G.lssF (i : Int) ((nR - 1 - i : Nat) : Int) (by kernel_rfl) (by omega) ?_
     have hlR := hst.done (by rw [← hRl]; exact hij)
     refine G.convB PH.mt 5 5 l bo nR c1 (by kernel_rfl) (by kernel_rfl) hA ?_
     refine G.give PH.mt (bytesV l) _ (by kernel_rfl) hA (fun _ => .inl rfl) ?_
     intro u8 l8 _
     refine G.ret (.string (mkS l)) (by kernel_rfl) ⟨rfl, ?_⟩
     rw [hlR, hrev]
   ·have hzn : z < 0 := by simpa using hb.symm
    refine G.buildU 5 1 1 (.int .u8 0) [.int .u8 45] (by kernel_rfl) (bytesV_ok [45]) rfl (by omega) (by simp) (by simp) ?_
    intro g u4 l4 e4
    refine G.append 5 1 1 (.int .u8 0) PH.mt (bytesV (ld N (k + 1))) [.int .u8 45] (.slice (some ⟨bo, 0, none⟩) (k + 1) c1) g 0 1 1 (by kernel_rfl) rfl rfl (by omega) hA e4 (bytesV_ok [45]) rfl (by omega) (by rw [bytesV_length, ld_length]; omega) (by rw [bytesV_length, ld_length]; omega) ?_
    intro v5 m5 hA5
    rw [show bytesV (ld N (k + 1)) ++ [.int .u8 45] = bytesV (ld N (k + 1) ++ [45]) by rw [bytesV_append]; rfl] at hA5
    obtain ⟨bR, cR, rfl⟩ := hA5.ptr (by simp [bytesV])
    rw [bytesV_length, List.length_append, ld_length, List.length_singleton] at hA5 ⊢
    have hrev : (ld N (k + 1) ++ [45]).reverse = Lib.itoa z := by rw [List.reverse_append, hdr, itoa_neg hzn, hN]; rfl
    clear hA
    have hA := hA5
    clear hA5
    have hlR : (ld N (k + 1) ++ [45]).length = k + 1 + 1 := by rw [List.length_append, ld_length]; rfl
    generalize hR : ld N (k + 1) ++ [45] = R at *
    generalize hnR : k + 1 + 1 = nR at *
    have hnb : nR ≤ 1000000000000 := by omega
    have hn1 : 1 ≤ nR := by omega
    have hRl := hA.len
    rw [bytesV_length] at hRl
    refine G.sub (nR : Int) 1 ((nR - 1 : Nat) : Int) (by kernel_rfl) (by omega) (by omega) (by omega) ?_
    refine G.loop (ι := Nat × List UInt8) (fun i => [(3, .v (.slice (some ⟨bR, 0, none⟩) nR cR)), (7, .v (.int .i64 (i.1 : Int))), (8, .v (.int .i64 ((nR - 1 - i.1 : Nat) : Int)))]) (fun _ => [])
     (fun i _ m' => i.1 ≤ nR - 1 ∧ RevSt R i.2 i.1 ∧ ArrAt PH.mt m' (.slice (some ⟨bR, 0, none⟩) nR cR) 5 1 (bytesV i.2)) (fun i => nR - i.1) (0, R) (by kernel_rfl) (fun _ => by kernel_rfl) ⟨by kernel_rfl, by kernel_rfl, by kernel_rfl⟩ ⟨by simp, RevSt.start R, hA⟩ ?_
    clear hA
    rintro J5 ⟨i, l⟩ hJ5 u5 m5 hle5 ⟨hi5, hst, hA⟩
    simp only at hi5 hst hA hJ5
    have hll := hst.len
    by_cases hij : i < nR - 1 - i
    ·refine G.lssT (i : Int) ((nR - 1 - i : Nat) : Int) (by kernel_rfl) (by omega) ?_
     refine G.addr bR 0 nR cR (nR - 1 - i) 1 (by kernel_rfl) (by omega) ?_
     refine G.loadM none bR (0 + (nR - 1 - i) * 1) (.int .u8 ((l.getD (nR - 1 - i) 0).toNat : Int)) (by kernel_rfl) (by kernel_rfl) (hA.el (bytesV_get (by omega))) ?_
     refine G.addr bR 0 nR cR i 1 (by kernel_rfl) (by omega) ?_
     refine G.loadM none bR (0 + i * 1) (.int .u8 ((l.getD i 0).toNat : Int)) (by kernel_rfl) (by kernel_rfl) (hA.el (bytesV_get (by omega))) ?_
     refine G.addr bR 0 nR cR i 1 (by kernel_rfl) (by omega) ?_
     refine G.storeA 1 PH.mt (bytesV l) bR nR cR i (.int .u8 ((l.getD (nR - 1 - i) 0).toNat : Int)) (by kernel_rfl) hA (by rw [bytesV_length]; omega) rfl rfl ?_
     intro m6 hA6
     rw [bytesV_set] at hA6
     refine G.addr bR 0 nR cR (nR - 1 - i) 1 (by kernel_rfl) (by omega) ?_
     refine G.storeA 1 PH.mt _ bR nR cR (nR - 1 - i) (.int .u8 ((l.getD i 0).toNat : Int)) (by kernel_rfl) hA6 (by rw [bytesV_length, List.length_set]; omega) rfl rfl ?_
     intro m7 hA7
     rw [bytesV_set] at hA7
     refine G.add (i : Int) 1 ((i + 1 : Nat) : Int) (by kernel_rfl) (by omega) (by omega) (by omega) ?_
     refine G.sub ((nR - 1 - i : Nat) : Int) 1 ((nR - 1 - (i + 1) : Nat) : Int) (by kernel_rfl) (by omega) (by omega) (by omega) ?_
     exact G.back (by kernel_rfl) (hJ5 (i + 1, (l.set i (l.getD (nR - 1 - i) 0)).set (nR - 1 - i) (l.getD i 0)) _ _ _ ⟨by kernel_rfl, by kernel_rfl, by kernel_rfl⟩ hle5 ⟨by dsimp only; omega, by dsimp only; rw [hRl] at hij ⊢; exact hst.step hij, hA7⟩ (by dsimp only; omega))
    ·refine G.lssF (i : Int) ((nR - 1 - i : Nat) : Int) (by kernel_rfl) (by omega) ?_
     have hlR := hst.done (by rw [← hRl]; exact hij)
     refine G.convB PH.mt 5 5 l bR nR cR (by kernel_rfl) (by kernel_rfl) hA ?_
     refine G.give PH.mt (bytesV l) _ (by kernel_rfl) hA (fun _ => .inl rfl) ?_
     intro u8 l8 _
     refine G.ret (.string (mkS l)) (by kernel_rfl) ⟨rfl, ?_⟩
     rw [hlR, hrev]
theorem bigGive0 {u : PH} {x : Value} {z : Int} (h : BigP u x z) (hs : nl z.natAbs ≤ 100000000000) (hd : Lib.nDigits z.natAbs ≤ 400) : Fn0 Tryz.prog 166 [x] u fun v _ => v = .tuple #[.string (mkS (Lib.itoa z)), .int .i64 0] := by
 obtain ⟨b, a, n, c, rfl, hb, hi⟩ := h.opn
 refine Fn0.of Tryz.func166 (by kernel_rfl) (by kernel_rfl) ?_
 refine G.call0 _ _ (by kernel_rfl) Tryz.call203 (bigDigits0 h hs) ?_
 rintro v1 u1 l1 rfl
 refine G.gtrF ((Lib.nDigits z.natAbs : Nat) : Int) 400 (by kernel_rfl) (by omega) ?_
 refine G.call0 _ _ (by kernel_rfl) Tryz.call120 (bigText0 (h.mono l1) hs) ?_
 rintro v2 u2 l2 rfl
 exact G.ret _ (by kernel_rfl) ⟨rfl, rfl⟩
theorem nl_i64 {z : Int} (h1 : -9223372036854775807 ≤ z) (h2 : z ≤ 9223372036854775807) : nl z.natAbs ≤ 100000000000 := Nat.le_trans (nl_le_of_lt (k := 3) (by omega)) (by omega)
theorem bigMake0 {u : PH} {z : Int} (h1 : -9223372036854775807 ≤ z) (h2 : z ≤ 9223372036854775807) : Fn0 Tryz.prog 61 [.int .i64 z] u fun v _ => v = .string (mkS (Lib.itoa z)) := by
 refine Fn0.of Tryz.func61 (by kernel_rfl) (by kernel_rfl) ?_
 refine G.call0 _ _ (by kernel_rfl) Tryz.call119 (bigOf0 h1 h2) ?_
 intro v1 u1 l1 k1
 obtain ⟨b1, a1, n1, c1, rfl, _, _⟩ := k1.opn
 refine G.call0 _ _ (by kernel_rfl) Tryz.call120 (bigText0 k1 (nl_i64 h1 h2)) ?_
 rintro v2 u2 l2 rfl
 exact G.ret _ (by kernel_rfl) ⟨rfl, rfl⟩
theorem refWhole0 {u : PH} {z : Int} (h1 : -9223372036854775807 ≤ z) (h2 : z ≤ 9223372036854775807) : Fn0 Tryz.prog 29 [.int .i64 z] u fun v _ => v = .string (mkS (Lib.itoa z)) := by
 refine Fn0.of Tryz.func29 (by kernel_rfl) (by kernel_rfl) ?_
 refine G.call0 _ _ (by kernel_rfl) Tryz.call61 (bigMake0 h1 h2) ?_
 rintro v2 u2 l2 rfl
 exact G.ret _ (by kernel_rfl) ⟨rfl, rfl⟩
end Go.Proofs.YtpdboaedoimahaaGreatDoor
end
section
set_option linter.unusedSectionVars false
set_option linter.unusedVariables false
namespace Go.Proofs.YtpdboaedoimahaaGreatDoor
open Go.RowKit
theorem IsDig.drop {l : List UInt8} (h : IsDig l) (k : Nat) : IsDig (l.drop k) := fun b hb => h b (List.mem_of_mem_drop hb)
theorem IsDig.take {l : List UInt8} (h : IsDig l) (k : Nat) : IsDig (l.take k) := fun b hb => h b (List.mem_of_mem_take hb)
theorem take_succ_drop {l : List UInt8} {k j : Nat} (h : k + j < l.length) : (l.drop k).take (j + 1) = (l.drop k).take j ++ [l.getD (k + j) 0] := by
 rw [List.take_add_one]
 congr 1
 rw [List.getElem?_drop, List.getElem?_eq_getElem h, List.getD_eq_getElem?_getD, List.getElem?_eq_getElem h]; rfl
theorem rd_snoc (l : List UInt8) (b : UInt8) : rd (l ++ [b]) = 10 * rd l + (b.toNat - 48) := by simp [rd, rdA]
theorem getD_dig {l : List UInt8} (h : IsDig l) {k : Nat} (hk : k < l.length) : 48 ≤ (l.getD k 0).toNat ∧ (l.getD k 0).toNat ≤ 57 := by
 rw [List.getD_eq_getElem?_getD, List.getElem?_eq_getElem hk]; exact h _ (List.getElem_mem hk)
theorem get_of_getD {l : List UInt8} {k : Nat} (hk : k < l.length) : l[k]? = some (l.getD k 0) := by
 rw [List.getD_eq_getElem?_getD, List.getElem?_eq_getElem hk]; rfl
def signed (b : Bool) (l : List UInt8) : List UInt8 := if b then 45 :: l else l
structure ReadSt (N : Nat) (s : List UInt8) (ys : List Nat) : Prop where
 low : Low ys
 dig : IsDig s
 sum : N = val ys + 1000000000 ^ ys.length * rd s
theorem ReadSt.step {N : Nat} {s : List UInt8} {ys : List Nat} (h : ReadSt N s ys) : ReadSt N (s.take (s.length - 9)) (ys ++ [rd (s.drop (s.length - 9))]) := by
 have hl : rd (s.drop (s.length - 9)) < 1000000000 := by
  have := rd_lt (h.dig.drop (s.length - 9))
  rw [List.length_drop] at this
  exact Nat.lt_of_lt_of_le this (by rw [show (1000000000 : Nat) = 10 ^ 9 from rfl]; exact Nat.pow_le_pow_right (by omega) (by omega))
 refine ⟨h.low.append (Low.cons hl Low.nil), h.dig.take _, ?_⟩
 have e : rd s = rd (s.take (s.length - 9)) * 1000000000 + rd (s.drop (s.length - 9)) := by
  have := rd_append (s.take (s.length - 9)) (s.drop (s.length - 9))
  rw [List.take_append_drop] at this
  rw [this]
  by_cases h9 : 9 ≤ s.length
  ·rw [List.length_drop, show s.length - (s.length - 9) = 9 by omega]
  ·rw [show s.length - 9 = 0 by omega]; simp [rd, rdA]
 rw [val_snoc, List.length_append, List.length_singleton, Nat.pow_succ, h.sum, e, Nat.mul_add, Nat.mul_assoc, Nat.mul_comm (rd _) 1000000000]
 omega
theorem tail_pos {b : Bool} {l : List UInt8} (hd : IsDig l) (hl : l ≠ []) (h : ¬ b = true) : (signed b l).getD 0 0 ≠ 45 := by
 cases b
 ·have h1 : 0 < l.length := by cases l; exact absurd rfl hl; simp
  have := getD_dig hd h1
  intro h2
  rw [show signed false l = l from rfl] at h2
  rw [h2] at this
  simp at this
 ·exact absurd rfl h
set_option maxHeartbeats 2000000 in
theorem bigRead0 {u : PH} (b : Bool) (l : List UInt8) (hd : IsDig l) (hl : l ≠ []) (hlen : l.length ≤ 1000000000) : Fn0 Tryz.prog 118 [.string (mkS (signed b l))] u fun v u' => BigP u' v (sgnd b (rd l)) := by
 have hl0 : 0 < l.length := by cases l; exact absurd rfl hl; simp
 refine Fn0.of Tryz.func118 (by kernel_rfl) (by kernel_rfl) ?_
 have hne : signed b l ≠ [] := by cases b <;> simp [signed, hl]
 refine G.neST (signed b l) [] (by kernel_rfl) hne ?_
 have h00 : (signed b l)[0]? = some ((signed b l).getD 0 0) := get_of_getD (by cases b <;> simp [signed]; omega)
 refine G.idxS (signed b l) 0 _ (by kernel_rfl) h00 ?_
 cases b
 ·have hne := tail_pos (b := false) hd hl (by simp)
  refine G.cmpG .eql .u8 (((signed false l).getD 0 0).toNat : Int) 45 false (by kernel_rfl) rfl (by simp only [cmpZ, decide_eq_false_iff_not]; intro h; exact hne (UInt8.toNat_inj.1 (by simpa using (by omega : ((signed false l).getD 0 0).toNat = 45)))) ?_
  refine G.loop (ι := List UInt8 × List Nat × (Option Addr × Nat × Nat)) (fun i => [(2, .p 0 0), (3, .v (.string (mkS i.1))), (4, .p 2001 0)])
   (fun i => [(0, ⟨122, [.v (.bool false), .v (.slice none 0 0)]⟩), (2001, ⟨122, [.v (.bool false), .v (.slice i.2.2.1 i.2.2.2.1 i.2.2.2.2)]⟩)])
   (fun i _ m' => i.1.length + i.2.1.length ≤ l.length ∧ ReadSt (rd l) i.1 i.2.1 ∧ ArrAt PH.mt m' (.slice i.2.2.1 i.2.2.2.1 i.2.2.2.2) 3 1 (intsV i.2.1)) (fun i => i.1.length) (l, [], (none, 0, 0)) (by kernel_rfl) (fun _ => by kernel_rfl) ⟨by kernel_rfl, by kernel_rfl, by kernel_rfl⟩ ⟨by simp, ⟨Low.nil, hd, by simp [val]⟩, ArrAt.nil _ _ _⟩ ?_
  rintro J ⟨s, ys, ⟨a, ny, c⟩⟩ hJ u' m' hle ⟨hsz, hst, hA⟩
  simp only at hsz hst hA hJ
  have hys := hA.len
  rw [intsV_length] at hys
  have hsd := hst.dig
  have hss : (mkS s).size = s.length := Go.Lib.size_mk s
  by_cases h0 : 0 < s.length
  ·refine G.gtrT (s.length : Int) 0 (by kernel_rfl) (by omega) ?_
   refine G.sub (s.length : Int) 9 ((s.length : Int) - 9) (by kernel_rfl) rfl (by omega) (by omega) ?_
   refine G.maxI [3, 3] 0 ((s.length : Int) - 9) ((s.length - 9 : Nat) : Int) (by kernel_rfl) (by omega) ?_
   refine G.loop (ι := Nat) (fun i => [(2, .p 0 0), (3, .v (.string (mkS s))), (4, .p 2001 0), (5, .v (.int .i64 ((s.length - 9 : Nat) : Int))), (6, .v (.int .i64 ((rd ((s.drop (s.length - 9)).take i) : Nat) : Int))), (7, .v (.int .i64 ((s.length - 9 + i : Nat) : Int)))])
    (fun _ => [(0, ⟨122, [.v (.bool false), .v (.slice none 0 0)]⟩), (2001, ⟨122, [.v (.bool false), .v (.slice a ny c)]⟩)])
    (fun i _ m' => s.length - 9 + i ≤ s.length ∧ ArrAt PH.mt m' (.slice a ny c) 3 1 (intsV ys)) (fun i => s.length - i) 0 (by kernel_rfl) (fun _ => by kernel_rfl) ⟨by kernel_rfl, by rw [List.take_zero]; kernel_rfl, by kernel_rfl⟩ ⟨by omega, hA⟩ ?_
   clear hA
   rintro J2 i hJ2 u2 m2 hle2 ⟨hi, hA⟩
   by_cases hlt : s.length - 9 + i < s.length
   ·refine G.lssT ((s.length - 9 + i : Nat) : Int) (s.length : Int) (by kernel_rfl) (by omega) ?_
    have hb9 : rd ((s.drop (s.length - 9)).take (i + 1)) < 1000000000 := by
     have := rd_lt ((hsd.drop (s.length - 9)).take (i + 1))
     refine Nat.lt_of_lt_of_le this ?_
     rw [show (1000000000 : Nat) = 10 ^ 9 from rfl]
     exact Nat.pow_le_pow_right (by omega) (by simp; omega)
    have hdg := getD_dig hsd hlt
    rw [take_succ_drop hlt, rd_snoc] at hb9
    refine G.mul 10 ((rd ((s.drop (s.length - 9)).take i) : Nat) : Int) ((10 * rd ((s.drop (s.length - 9)).take i) : Nat) : Int) (by kernel_rfl) (by omega) (by omega) (by omega) ?_
    refine G.idxS s (s.length - 9 + i) _ (by kernel_rfl) (get_of_getD hlt) ?_
    refine G.sub8 ((s.getD (s.length - 9 + i) 0).toNat : Int) 48 (((s.getD (s.length - 9 + i) 0).toNat - 48 : Nat) : Int) (by kernel_rfl) (by omega) (by omega) (by omega) ?_
    refine G.convI .u8 .i64 .u8 (((s.getD (s.length - 9 + i) 0).toNat - 48 : Nat) : Int) (((s.getD (s.length - 9 + i) 0).toNat - 48 : Nat) : Int) (by kernel_rfl) (i64_wrap (by omega) (by omega)) ?_
    refine G.add ((10 * rd ((s.drop (s.length - 9)).take i) : Nat) : Int) (((s.getD (s.length - 9 + i) 0).toNat - 48 : Nat) : Int) ((rd ((s.drop (s.length - 9)).take (i + 1)) : Nat) : Int) (by kernel_rfl) (by rw [take_succ_drop hlt, rd_snoc]; omega) (by omega) (by rw [take_succ_drop hlt, rd_snoc]; omega) ?_
    refine G.add ((s.length - 9 + i : Nat) : Int) 1 ((s.length - 9 + (i + 1) : Nat) : Int) (by kernel_rfl) (by omega) (by omega) (by omega) ?_
    exact G.back (by kernel_rfl) (hJ2 (i + 1) _ _ _ ⟨by kernel_rfl, by kernel_rfl, by kernel_rfl⟩ hle2 ⟨by omega, hA⟩ (by omega))
   ·refine G.lssF ((s.length - 9 + i : Nat) : Int) (s.length : Int) (by kernel_rfl) (by omega) ?_
    have htk : (s.drop (s.length - 9)).take i = s.drop (s.length - 9) := List.take_of_length_le (by simp; omega)
    rw [htk]
    have hstep := hst.step
    have hsl : (s.take (s.length - 9)).length = s.length - 9 := by simp
    generalize rd (s.drop (s.length - 9)) = d at hstep ⊢
    refine G.buildU 3 1 8 (.int .i64 0) [.int .i64 (d : Int)] (by kernel_rfl) (intsV_ok [d]) rfl (by omega) (by simp) (by simp) ?_
    intro g u3 l3 e3
    refine G.append 3 1 8 (.int .i64 0) PH.mt (intsV ys) [.int .i64 (d : Int)] (.slice a ny c) g 0 1 1 (by kernel_rfl) rfl rfl (by omega) hA e3 (intsV_ok [d]) rfl (by omega) (by rw [intsV_length]; omega) (by rw [intsV_length]; omega) ?_
    intro v4 m4 hA4
    rw [intsV_snoc] at hA4
    obtain ⟨a4, c4, rfl⟩ := hA4.shape
    refine G.sliceSTo s (s.length - 9) (by kernel_rfl) (by kernel_rfl) (by omega) ?_
    exact G.back (by kernel_rfl) (hJ (s.take (s.length - 9), ys ++ [d], (a4, (intsV (ys ++ [d])).length, c4)) _ _ _ ⟨by kernel_rfl, by kernel_rfl, by kernel_rfl⟩ ((hle.trans hle2).trans l3) ⟨by dsimp only; rw [hsl, List.length_append, List.length_singleton]; omega, hstep, hA4⟩ (by dsimp only; rw [hsl]; omega))
  ·have hs0 : s = [] := List.eq_nil_of_length_eq_zero (by omega)
   subst hs0
   refine G.gtrF ((0 : Nat) : Int) 0 (by kernel_rfl) (by omega) ?_
   refine G.give PH.mt (intsV ys) _ (by kernel_rfl) hA (fun _ => .inl rfl) ?_
   intro u3 l3 hL
   refine G.call0 _ _ (by kernel_rfl) Tryz.call172 (bigTrimB (b := false) (a := a) (n := ny) (c := c) (l := ys) hL hst.low (by omega)) ?_
   intro v5 u5 l5 k5
   have hv : val ys = rd l := by have := hst.sum; simpa [rd, rdA] using this.symm
   rw [hv] at k5
   obtain ⟨b5, a5, n5, c5, rfl, _, _⟩ := k5.opn
   exact G.ret (.agg #[.bool b5, .slice a5 n5 c5]) (by kernel_rfl) ⟨rfl, k5⟩
 ·refine G.cmpG .eql .u8 (((signed true l).getD 0 0).toNat : Int) 45 true (by kernel_rfl) rfl (by simp [cmpZ, signed]) ?_
  refine G.sliceSFrom (signed true l) 1 (by kernel_rfl) (by kernel_rfl) (by simp [signed]) ?_
  rw [show (signed true l).drop 1 = l from rfl]
  refine G.loop (ι := List UInt8 × List Nat × (Option Addr × Nat × Nat)) (fun i => [(2, .p 0 0), (3, .v (.string (mkS i.1))), (4, .p 2001 0)])
   (fun i => [(0, ⟨122, [.v (.bool false), .v (.slice none 0 0)]⟩), (2001, ⟨122, [.v (.bool true), .v (.slice i.2.2.1 i.2.2.2.1 i.2.2.2.2)]⟩)])
   (fun i _ m' => i.1.length + i.2.1.length ≤ l.length ∧ ReadSt (rd l) i.1 i.2.1 ∧ ArrAt PH.mt m' (.slice i.2.2.1 i.2.2.2.1 i.2.2.2.2) 3 1 (intsV i.2.1)) (fun i => i.1.length) (l, [], (none, 0, 0)) (by kernel_rfl) (fun _ => by kernel_rfl) ⟨by kernel_rfl, by kernel_rfl, by kernel_rfl⟩ ⟨by simp, ⟨Low.nil, hd, by simp [val]⟩, ArrAt.nil _ _ _⟩ ?_
  rintro J ⟨s, ys, ⟨a, ny, c⟩⟩ hJ u' m' hle ⟨hsz, hst, hA⟩
  simp only at hsz hst hA hJ
  have hys := hA.len
  rw [intsV_length] at hys
  have hsd := hst.dig
  have hss : (mkS s).size = s.length := Go.Lib.size_mk s
  by_cases h0 : 0 < s.length
  ·refine G.gtrT (s.length : Int) 0 (by kernel_rfl) (by omega) ?_
   refine G.sub (s.length : Int) 9 ((s.length : Int) - 9) (by kernel_rfl) rfl (by omega) (by omega) ?_
   refine G.maxI [3, 3] 0 ((s.length : Int) - 9) ((s.length - 9 : Nat) : Int) (by kernel_rfl) (by omega) ?_
   refine G.loop (ι := Nat) (fun i => [(2, .p 0 0), (3, .v (.string (mkS s))), (4, .p 2001 0), (5, .v (.int .i64 ((s.length - 9 : Nat) : Int))), (6, .v (.int .i64 ((rd ((s.drop (s.length - 9)).take i) : Nat) : Int))), (7, .v (.int .i64 ((s.length - 9 + i : Nat) : Int)))])
    (fun _ => [(0, ⟨122, [.v (.bool false), .v (.slice none 0 0)]⟩), (2001, ⟨122, [.v (.bool true), .v (.slice a ny c)]⟩)])
    (fun i _ m' => s.length - 9 + i ≤ s.length ∧ ArrAt PH.mt m' (.slice a ny c) 3 1 (intsV ys)) (fun i => s.length - i) 0 (by kernel_rfl) (fun _ => by kernel_rfl) ⟨by kernel_rfl, by rw [List.take_zero]; kernel_rfl, by kernel_rfl⟩ ⟨by omega, hA⟩ ?_
   clear hA
   rintro J2 i hJ2 u2 m2 hle2 ⟨hi, hA⟩
   by_cases hlt : s.length - 9 + i < s.length
   ·refine G.lssT ((s.length - 9 + i : Nat) : Int) (s.length : Int) (by kernel_rfl) (by omega) ?_
    have hb9 : rd ((s.drop (s.length - 9)).take (i + 1)) < 1000000000 := by
     have := rd_lt ((hsd.drop (s.length - 9)).take (i + 1))
     refine Nat.lt_of_lt_of_le this ?_
     rw [show (1000000000 : Nat) = 10 ^ 9 from rfl]
     exact Nat.pow_le_pow_right (by omega) (by simp; omega)
    have hdg := getD_dig hsd hlt
    rw [take_succ_drop hlt, rd_snoc] at hb9
    refine G.mul 10 ((rd ((s.drop (s.length - 9)).take i) : Nat) : Int) ((10 * rd ((s.drop (s.length - 9)).take i) : Nat) : Int) (by kernel_rfl) (by omega) (by omega) (by omega) ?_
    refine G.idxS s (s.length - 9 + i) _ (by kernel_rfl) (get_of_getD hlt) ?_
    refine G.sub8 ((s.getD (s.length - 9 + i) 0).toNat : Int) 48 (((s.getD (s.length - 9 + i) 0).toNat - 48 : Nat) : Int) (by kernel_rfl) (by omega) (by omega) (by omega) ?_
    refine G.convI .u8 .i64 .u8 (((s.getD (s.length - 9 + i) 0).toNat - 48 : Nat) : Int) (((s.getD (s.length - 9 + i) 0).toNat - 48 : Nat) : Int) (by kernel_rfl) (i64_wrap (by omega) (by omega)) ?_
    refine G.add ((10 * rd ((s.drop (s.length - 9)).take i) : Nat) : Int) (((s.getD (s.length - 9 + i) 0).toNat - 48 : Nat) : Int) ((rd ((s.drop (s.length - 9)).take (i + 1)) : Nat) : Int) (by kernel_rfl) (by rw [take_succ_drop hlt, rd_snoc]; omega) (by omega) (by rw [take_succ_drop hlt, rd_snoc]; omega) ?_
    refine G.add ((s.length - 9 + i : Nat) : Int) 1 ((s.length - 9 + (i + 1) : Nat) : Int) (by kernel_rfl) (by omega) (by omega) (by omega) ?_
    exact G.back (by kernel_rfl) (hJ2 (i + 1) _ _ _ ⟨by kernel_rfl, by kernel_rfl, by kernel_rfl⟩ hle2 ⟨by omega, hA⟩ (by omega))
   ·refine G.lssF ((s.length - 9 + i : Nat) : Int) (s.length : Int) (by kernel_rfl) (by omega) ?_
    have htk : (s.drop (s.length - 9)).take i = s.drop (s.length - 9) := List.take_of_length_le (by simp; omega)
    rw [htk]
    have hstep := hst.step
    have hsl : (s.take (s.length - 9)).length = s.length - 9 := by simp
    generalize rd (s.drop (s.length - 9)) = d at hstep ⊢
    refine G.buildU 3 1 8 (.int .i64 0) [.int .i64 (d : Int)] (by kernel_rfl) (intsV_ok [d]) rfl (by omega) (by simp) (by simp) ?_
    intro g u3 l3 e3
    refine G.append 3 1 8 (.int .i64 0) PH.mt (intsV ys) [.int .i64 (d : Int)] (.slice a ny c) g 0 1 1 (by kernel_rfl) rfl rfl (by omega) hA e3 (intsV_ok [d]) rfl (by omega) (by rw [intsV_length]; omega) (by rw [intsV_length]; omega) ?_
    intro v4 m4 hA4
    rw [intsV_snoc] at hA4
    obtain ⟨a4, c4, rfl⟩ := hA4.shape
    refine G.sliceSTo s (s.length - 9) (by kernel_rfl) (by kernel_rfl) (by omega) ?_
    exact G.back (by kernel_rfl) (hJ (s.take (s.length - 9), ys ++ [d], (a4, (intsV (ys ++ [d])).length, c4)) _ _ _ ⟨by kernel_rfl, by kernel_rfl, by kernel_rfl⟩ ((hle.trans hle2).trans l3) ⟨by dsimp only; rw [hsl, List.length_append, List.length_singleton]; omega, hstep, hA4⟩ (by dsimp only; rw [hsl]; omega))
  ·have hs0 : s = [] := List.eq_nil_of_length_eq_zero (by omega)
   subst hs0
   refine G.gtrF ((0 : Nat) : Int) 0 (by kernel_rfl) (by omega) ?_
   refine G.give PH.mt (intsV ys) _ (by kernel_rfl) hA (fun _ => .inl rfl) ?_
   intro u3 l3 hL
   refine G.call0 _ _ (by kernel_rfl) Tryz.call172 (bigTrimB (b := true) (a := a) (n := ny) (c := c) (l := ys) hL hst.low (by omega)) ?_
   intro v5 u5 l5 k5
   have hv : val ys = rd l := by have := hst.sum; simpa [rd, rdA] using this.symm
   rw [hv] at k5
   obtain ⟨b5, a5, n5, c5, rfl, _, _⟩ := k5.opn
   exact G.ret (.agg #[.bool b5, .slice a5 n5 c5]) (by kernel_rfl) ⟨rfl, k5⟩
end Go.Proofs.YtpdboaedoimahaaGreatDoor
end
section
set_option linter.unusedSectionVars false
set_option linter.unusedVariables false
namespace Go.Proofs.YtpdboaedoimahaaGreatDoor
open Go.RowKit
theorem itoa_signed (z : Int) : Lib.itoa z = signed (decide (z < 0)) (Lib.decDigits z.natAbs) := by
 by_cases h : z < 0
 ·rw [itoa_neg h, decide_eq_true h]; rfl
 ·rw [itoa_nonneg h, decide_eq_false h]; rfl
theorem sgnd_itoa (z : Int) : sgnd (decide (z < 0)) (rd (Lib.decDigits z.natAbs)) = z := by rw [rd_dec]; exact sgnd_self z
theorem nl_of_digk {n k : Nat} (h : Lib.nDigits n ≤ k) : nl n ≤ k := by
 refine nl_le_of_lt (Nat.lt_of_lt_of_le (Lib.lt_pow_nDigits n) ?_)
 rw [ten9]; exact Nat.pow_le_pow_right (by omega) (by omega)
theorem nl_of_dig {n : Nat} (h : Lib.nDigits n ≤ 400) : nl n ≤ 400 := nl_of_digk h
theorem itoa_len {z : Int} (h : Lib.nDigits z.natAbs ≤ 400) : (Lib.itoa z).length ≤ 401 := by
 rw [itoa_signed]; unfold signed; split <;> simp [Lib.decDigits_length] <;> omega
theorem bigReadT {u : PH} {z : Int} (h : Lib.nDigits z.natAbs ≤ 400) : Fn0 Tryz.prog 118 [.string (mkS (Lib.itoa z))] u fun v u' => BigP u' v z := by
 have := bigRead0 (u := u) (decide (z < 0)) (Lib.decDigits z.natAbs) (dec_dig _) (dec_ne_nil _) (by rw [Lib.decDigits_length]; omega)
 rw [sgnd_itoa, ← itoa_signed] at this
 exact this
theorem dec_zero : Lib.decDigits 0 = [48] := Lib.decDigits_one (by omega)
theorem dec_onee : Lib.decDigits 1 = [49] := Lib.decDigits_one (by omega)
theorem itoa_zero : Lib.itoa 0 = [48] := by rw [itoa_nonneg (by omega)]; exact dec_zero
theorem itoa_one : Lib.itoa 1 = [49] := by rw [itoa_nonneg (by omega)]; exact dec_onee
theorem itoa_nat (n : Nat) : Lib.itoa (n : Int) = Lib.decDigits n := by rw [itoa_nonneg (by omega)]; congr 1
def rdZ (t : List UInt8) : Int := match t with
 | 45 :: l => -(rd l : Int)
 | l => rd l
theorem rdZ_itoa (z : Int) : rdZ (Lib.itoa z) = z := by
 by_cases h : z < 0
 ·rw [itoa_neg h]; simp only [rdZ, rd_dec]; omega
 ·rw [itoa_nonneg h]
  have h1 := dec_head z.natAbs
  have h2 := rd_dec z.natAbs
  have h3 := dec_dig z.natAbs
  generalize Lib.decDigits z.natAbs = l at *
  cases l with
  | nil => simp at h1
  | cons b l =>
   have hb := h3 b (by simp)
   unfold rdZ
   split
   ·rename_i e; simp at e; rw [e.1] at hb; simp at hb
   ·rw [h2]; omega
theorem itoa_inj {y z : Int} (h : Lib.itoa y = Lib.itoa z) : y = z := by rw [← rdZ_itoa y, h, rdZ_itoa]
theorem itoa_first {z : Int} (hz : 0 ≤ z) (h0 : z ≠ 0) : ∃ b, (Lib.itoa z)[0]? = some b ∧ 49 ≤ b.toNat ∧ b.toNat ≤ 57 := by
 rw [itoa_nonneg (by omega)]
 refine ⟨_, dec_head _, dec_first (by omega), ?_⟩
 rw [dg_toNat]; have := Nat.mod_lt (z.natAbs / 10 ^ (Lib.nDigits z.natAbs - 1)) (show 0 < 10 by omega); omega
theorem bigValid0 {u : PH} {z : Int} (h : Lib.nDigits z.natAbs ≤ 400) : Fn0 Tryz.prog 167 [.string (mkS (Lib.itoa z))] u fun v _ => v = .bool true := by
 refine Fn0.of Tryz.func167 (by kernel_rfl) (by kernel_rfl) ?_
 by_cases h0 : z = 0
 ·subst h0
  refine G.eqST (Lib.itoa 0) [48] (by kernel_rfl) itoa_zero ?_
  exact G.ret (.bool true) (by kernel_rfl) ⟨rfl, rfl⟩
 refine G.eqSF (Lib.itoa z) [48] (by kernel_rfl) (fun e => h0 (itoa_inj (e.trans itoa_zero.symm))) ?_
 have hsize : (mkS (Lib.itoa z)).size = (Lib.itoa z).length := Go.Lib.size_mk _
 have hlen := itoa_len h
 have hdl := Lib.decDigits_length z.natAbs
 have hdp := Lib.nDigits_pos z.natAbs
 have hdd := dec_dig z.natAbs
 obtain ⟨b0, hb0, hb1, hb2⟩ := itoa_first (z := (z.natAbs : Int)) (by omega) (by omega)
 rw [itoa_nat] at hb0
 have hs := itoa_signed z
 generalize hL : Lib.decDigits z.natAbs = L at *
 generalize hT : Lib.itoa z = T at *
 have hTl : 0 < T.length := by rw [hs]; unfold signed; split; simp; omega
 refine G.gtrT (T.length : Int) 0 (by kernel_rfl) (by omega) ?_
 by_cases hz : z < 0
 ·rw [decide_eq_true hz] at hs
  refine G.idxS T 0 45 (by kernel_rfl) (by rw [hs]; rfl) ?_
  refine G.cmpG .eql .u8 45 45 true (by kernel_rfl) rfl rfl ?_
  refine G.sliceSFrom T 1 (by kernel_rfl) (by kernel_rfl) (by omega) ?_
  rw [show T.drop 1 = L by rw [hs]; rfl]
  refine G.eqlF (L.length : Int) 0 (by kernel_rfl) (by omega) ?_
  refine G.gtrF (L.length : Int) 400 (by kernel_rfl) (by omega) ?_
  refine G.idxS L 0 b0 (by kernel_rfl) hb0 ?_
  refine G.cmpG .eql .u8 (b0.toNat : Int) 48 false (by kernel_rfl) rfl (by simp only [cmpZ, decide_eq_false_iff_not]; omega) ?_
  refine G.loop (ι := Nat) (fun i => [(3, .v (.string (mkS L))), (4, .v (.int .i64 (i : Int)))]) (fun _ => []) (fun i _ m' => i ≤ L.length ∧ m' = PH.mt) (fun i => L.length - i) 0 (by kernel_rfl) (fun _ => by kernel_rfl) ⟨by kernel_rfl, by kernel_rfl, by kernel_rfl⟩ ⟨by omega, rfl⟩ ?_
  rintro J i hJ u' m' hle ⟨hi, rfl⟩
  by_cases hlt : i < L.length
  ·refine G.lssT (i : Int) (L.length : Int) (by kernel_rfl) (by omega) ?_
   have hg := getD_dig hdd hlt
   refine G.idxS L i _ (by kernel_rfl) (get_of_getD hlt) ?_
   refine G.cmpG .lss .u8 ((L.getD i 0).toNat : Int) 48 false (by kernel_rfl) rfl (by simp only [cmpZ, decide_eq_false_iff_not]; omega) ?_
   refine G.idxS L i _ (by kernel_rfl) (get_of_getD hlt) ?_
   refine G.cmpG .gtr .u8 ((L.getD i 0).toNat : Int) 57 false (by kernel_rfl) rfl (by simp only [cmpZ, decide_eq_false_iff_not]; omega) ?_
   refine G.add (i : Int) 1 ((i + 1 : Nat) : Int) (by kernel_rfl) (by omega) (by omega) (by omega) ?_
   exact G.back (by kernel_rfl) (hJ (i + 1) _ _ _ ⟨by kernel_rfl, by kernel_rfl, by kernel_rfl⟩ hle ⟨by omega, rfl⟩ (by omega))
  ·refine G.lssF (i : Int) (L.length : Int) (by kernel_rfl) (by omega) ?_
   exact G.ret (.bool true) (by kernel_rfl) ⟨rfl, rfl⟩
 ·rw [decide_eq_false hz] at hs
  have hTL : T = L := hs
  subst hTL
  refine G.idxS T 0 b0 (by kernel_rfl) hb0 ?_
  refine G.cmpG .eql .u8 (b0.toNat : Int) 45 false (by kernel_rfl) rfl (by simp only [cmpZ, decide_eq_false_iff_not]; omega) ?_
  refine G.eqlF (T.length : Int) 0 (by kernel_rfl) (by omega) ?_
  refine G.gtrF (T.length : Int) 400 (by kernel_rfl) (by omega) ?_
  refine G.idxS T 0 b0 (by kernel_rfl) hb0 ?_
  refine G.cmpG .eql .u8 (b0.toNat : Int) 48 false (by kernel_rfl) rfl (by simp only [cmpZ, decide_eq_false_iff_not]; omega) ?_
  refine G.loop (ι := Nat) (fun i => [(3, .v (.string (mkS T))), (4, .v (.int .i64 (i : Int)))]) (fun _ => []) (fun i _ m' => i ≤ T.length ∧ m' = PH.mt) (fun i => T.length - i) 0 (by kernel_rfl) (fun _ => by kernel_rfl) ⟨by kernel_rfl, by kernel_rfl, by kernel_rfl⟩ ⟨by omega, rfl⟩ ?_
  rintro J i hJ u' m' hle ⟨hi, rfl⟩
  by_cases hlt : i < T.length
  ·refine G.lssT (i : Int) (T.length : Int) (by kernel_rfl) (by omega) ?_
   have hg := getD_dig hdd hlt
   refine G.idxS T i _ (by kernel_rfl) (get_of_getD hlt) ?_
   refine G.cmpG .lss .u8 ((T.getD i 0).toNat : Int) 48 false (by kernel_rfl) rfl (by simp only [cmpZ, decide_eq_false_iff_not]; omega) ?_
   refine G.idxS T i _ (by kernel_rfl) (get_of_getD hlt) ?_
   refine G.cmpG .gtr .u8 ((T.getD i 0).toNat : Int) 57 false (by kernel_rfl) rfl (by simp only [cmpZ, decide_eq_false_iff_not]; omega) ?_
   refine G.add (i : Int) 1 ((i + 1 : Nat) : Int) (by kernel_rfl) (by omega) (by omega) (by omega) ?_
   exact G.back (by kernel_rfl) (hJ (i + 1) _ _ _ ⟨by kernel_rfl, by kernel_rfl, by kernel_rfl⟩ hle ⟨by omega, rfl⟩ (by omega))
  ·refine G.lssF (i : Int) (T.length : Int) (by kernel_rfl) (by omega) ?_
   exact G.ret (.bool true) (by kernel_rfl) ⟨rfl, rfl⟩
theorem refSplitN {u : PH} {T : List UInt8} (h : ∀ b ∈ T, b ≠ 47) (hl : T.length ≤ 1000000) : Fn0 Tryz.prog 117 [.string (mkS T)] u fun v _ => v = .tuple #[.string (mkS T), .string (mkS [49]), .bool false] := by
 have hsize : (mkS T).size = T.length := Go.Lib.size_mk _
 refine Fn0.of Tryz.func117 (by kernel_rfl) (by kernel_rfl) ?_
 refine G.loop (ι := Nat) (fun i => [(0, .v (.string (mkS T))), (5, .v (.int .i64 (i : Int)))]) (fun _ => []) (fun i _ m' => i ≤ T.length ∧ m' = PH.mt) (fun i => T.length - i) 0 (by kernel_rfl) (fun _ => by kernel_rfl) ⟨by kernel_rfl, by kernel_rfl, by kernel_rfl⟩ ⟨by omega, rfl⟩ ?_
 rintro J i hJ u' m' hle ⟨hi, rfl⟩
 by_cases hlt : i < T.length
 ·refine G.lssT (i : Int) (T.length : Int) (by kernel_rfl) (by omega) ?_
  refine G.idxS T i _ (by kernel_rfl) (get_of_getD hlt) ?_
  have hne : T.getD i 0 ≠ 47 := by rw [List.getD_eq_getElem?_getD, List.getElem?_eq_getElem hlt]; exact h _ (List.getElem_mem hlt)
  refine G.cmpG .eql .u8 ((T.getD i 0).toNat : Int) 47 false (by kernel_rfl) rfl (by simp only [cmpZ, decide_eq_false_iff_not]; intro h; exact hne (UInt8.toNat_inj.1 (by simpa using (by omega : (T.getD i 0).toNat = 47)))) ?_
  refine G.add (i : Int) 1 ((i + 1 : Nat) : Int) (by kernel_rfl) (by omega) (by omega) (by omega) ?_
  exact G.back (by kernel_rfl) (hJ (i + 1) _ _ _ ⟨by kernel_rfl, by kernel_rfl, by kernel_rfl⟩ hle ⟨by omega, rfl⟩ (by omega))
 ·refine G.lssF (i : Int) (T.length : Int) (by kernel_rfl) (by omega) ?_
  exact G.ret (.tuple #[.string (mkS T), .string (mkS [49]), .bool false]) (by kernel_rfl) ⟨rfl, rfl⟩
theorem refSplitS {u : PH} {A B : List UInt8} (h : ∀ b ∈ A, b ≠ 47) (hl : (A ++ 47 :: B).length ≤ 1000000) : Fn0 Tryz.prog 117 [.string (mkS (A ++ 47 :: B))] u fun v _ => v = .tuple #[.string (mkS A), .string (mkS B), .bool true] := by
 have hT : ∀ i, i < A.length → (A ++ 47 :: B).getD i 0 ≠ 47 := by
  intro i hi
  rw [List.getD_eq_getElem?_getD, List.getElem?_append_left hi, List.getElem?_eq_getElem hi]; exact h _ (List.getElem_mem hi)
 have hA : (A ++ 47 :: B)[A.length]? = some 47 := by rw [List.getElem?_append_right (Nat.le_refl _)]; simp
 have hlen : (A ++ 47 :: B).length = A.length + 1 + B.length := by simp; omega
 have htk : (A ++ 47 :: B).take A.length = A := by simp
 have hdr : (A ++ 47 :: B).drop (A.length + 1) = B := by rw [← List.drop_drop]; simp
 generalize A ++ 47 :: B = T at *
 have hsize : (mkS T).size = T.length := Go.Lib.size_mk _
 refine Fn0.of Tryz.func117 (by kernel_rfl) (by kernel_rfl) ?_
 refine G.loop (ι := Nat) (fun i => [(0, .v (.string (mkS T))), (5, .v (.int .i64 (i : Int)))]) (fun _ => []) (fun i _ m' => i ≤ A.length ∧ m' = PH.mt) (fun i => T.length - i) 0 (by kernel_rfl) (fun _ => by kernel_rfl) ⟨by kernel_rfl, by kernel_rfl, by kernel_rfl⟩ ⟨by omega, rfl⟩ ?_
 rintro J i hJ u' m' hle ⟨hi, rfl⟩
 refine G.lssT (i : Int) (T.length : Int) (by kernel_rfl) (by omega) ?_
 by_cases hlt : i < A.length
 ·refine G.idxS T i _ (by kernel_rfl) (get_of_getD (by omega)) ?_
  have hne := hT i hlt
  refine G.cmpG .eql .u8 ((T.getD i 0).toNat : Int) 47 false (by kernel_rfl) rfl (by simp only [cmpZ, decide_eq_false_iff_not]; intro h; exact hne (UInt8.toNat_inj.1 (by simpa using (by omega : (T.getD i 0).toNat = 47)))) ?_
  refine G.add (i : Int) 1 ((i + 1 : Nat) : Int) (by kernel_rfl) (by omega) (by omega) (by omega) ?_
  exact G.back (by kernel_rfl) (hJ (i + 1) _ _ _ ⟨by kernel_rfl, by kernel_rfl, by kernel_rfl⟩ hle ⟨by omega, rfl⟩ (by omega))
 ·have : i = A.length := by omega
  subst this
  refine G.idxS T A.length 47 (by kernel_rfl) hA ?_
  refine G.cmpG .eql .u8 47 47 true (by kernel_rfl) rfl rfl ?_
  refine G.sliceSTo T A.length (by kernel_rfl) (by kernel_rfl) (by omega) ?_
  rw [htk]
  refine G.add (A.length : Int) 1 ((A.length + 1 : Nat) : Int) (by kernel_rfl) (by omega) (by omega) (by omega) ?_
  refine G.sliceSFrom T (A.length + 1) (by kernel_rfl) (by kernel_rfl) (by omega) ?_
  rw [hdr]
  exact G.ret (.tuple #[.string (mkS A), .string (mkS B), .bool true]) (by kernel_rfl) ⟨rfl, rfl⟩
def ratT (q : Rat) : List UInt8 := if q.den = 1 then Lib.itoa q.num else Lib.itoa q.num ++ 47 :: Lib.itoa (q.den : Int)
def Tx (q : Rat) : Prop := Lib.nDigits q.num.natAbs ≤ 400 ∧ Lib.nDigits q.den ≤ 400
theorem Tx.den {q : Rat} (h : Tx q) : Lib.nDigits ((q.den : Int)).natAbs ≤ 400 := by simpa using h.2
theorem Sz.mono {q : Rat} {j k : Nat} (h : Sz q j) (hjk : j ≤ k) : Sz q k := ⟨Nat.le_trans h.1 hjk, Nat.le_trans h.2 hjk⟩
theorem itoa_no47 (z : Int) : ∀ b ∈ Lib.itoa z, b ≠ 47 := by
 have hd := dec_dig z.natAbs
 intro b hb e
 subst e
 rw [itoa_signed] at hb
 unfold signed at hb
 split at hb
 ·simp at hb
  have := hd _ hb; simp at this
 ·have := hd _ hb; simp at this
theorem refSplitT {u : PH} {q : Rat} (h : Tx q) : Fn0 Tryz.prog 117 [.string (mkS (ratT q))] u fun v _ => v = .tuple #[.string (mkS (Lib.itoa q.num)), .string (mkS (Lib.itoa (q.den : Int))), .bool (decide (q.den ≠ 1))] := by
 have l1 := itoa_len h.1
 have l2 := itoa_len h.den
 unfold ratT
 by_cases hd : q.den = 1
 ·rw [if_pos hd, hd, show ((1 : Nat) : Int) = 1 from rfl, itoa_one]
  exact refSplitN (itoa_no47 _) (by omega)
 ·rw [if_neg hd, decide_eq_true hd]
  exact refSplitS (itoa_no47 _) (by simp; omega)
theorem refReadT {u : PH} {q : Rat} (h : Tx q) : Fn0 Tryz.prog 60 [.string (mkS (ratT q))] u fun v u' => QP u' v q := by
 refine Fn0.of Tryz.func60 (by kernel_rfl) (by kernel_rfl) ?_
 refine G.call0 _ _ (by kernel_rfl) Tryz.call117 (refSplitT h) ?_
 rintro v1 u1 l1 rfl
 refine G.call0 _ _ (by kernel_rfl) Tryz.call118 (bigReadT h.1) ?_
 intro v2 u2 l2 k2
 obtain ⟨b2, a2, n2, c2, rfl, _, _⟩ := k2.opn
 refine G.call0 _ _ (by kernel_rfl) Tryz.call118 (bigReadT h.den) ?_
 intro v3 u3 l3 k3
 obtain ⟨b3, a3, n3, c3, rfl, _, _⟩ := k3.opn
 exact G.ret (.agg #[.bool b2, .slice a2 n2 c2, .bool b3, .slice a3 n3 c3]) (by kernel_rfl) ⟨rfl, QP.mk (k2.mono l3) k3 rfl rfl⟩
theorem ratT_len {q : Rat} (h : Tx q) : (ratT q).length ≤ 802 := by
 have l1 := itoa_len h.1
 have l2 := Lib.decDigits_length q.den
 have l3 := h.2
 unfold ratT
 split
 ·omega
 ·rw [itoa_nat]; simp; omega
theorem num_ne {q : Rat} (h : q.den ≠ 1) : q.num ≠ 0 := fun h0 => h (by have := Rat.num_eq_zero.1 h0; subst this; rfl)
theorem refParts0 {u : PH} {q : Rat} (h : Tx q) : Fn0 Tryz.prog 112 [.string (mkS (ratT q))] u fun v _ => v = .tuple #[.string (mkS (Lib.itoa q.num)), .string (mkS (Lib.itoa (q.den : Int))), .bool true] := by
 have hsize : (mkS (ratT q)).size = (ratT q).length := Go.Lib.size_mk _
 have hlen := ratT_len h
 refine Fn0.of Tryz.func112 (by kernel_rfl) (by kernel_rfl) ?_
 refine G.gtrF ((ratT q).length : Int) 802 (by kernel_rfl) (by omega) ?_
 refine G.call0 _ _ (by kernel_rfl) Tryz.call117 (refSplitT h) ?_
 rintro v1 u1 l1 rfl
 refine G.call0 _ _ (by kernel_rfl) Tryz.call167 (bigValid0 h.1) ?_
 rintro v2 u2 l2 rfl
 refine G.call0 _ _ (by kernel_rfl) Tryz.call167 (bigValid0 h.den) ?_
 rintro v3 u3 l3 rfl
 by_cases hd : q.den = 1
 ·rw [show decide (q.den ≠ 1) = false by simp [hd]]
  exact G.ret (.tuple #[.string (mkS (Lib.itoa q.num)), .string (mkS (Lib.itoa (q.den : Int))), .bool true]) (by kernel_rfl) ⟨rfl, rfl⟩
 ·rw [show decide (q.den ≠ 1) = true by simp [hd]]
  have hn := num_ne hd
  have hdn := q.den_nz
  refine G.eqSF (Lib.itoa q.num) [48] (by kernel_rfl) (fun e => hn (itoa_inj (e.trans itoa_zero.symm))) ?_
  refine G.eqSF (Lib.itoa (q.den : Int)) [49] (by kernel_rfl) (fun e => by have := itoa_inj (e.trans itoa_one.symm); omega) ?_
  refine G.eqSF (Lib.itoa (q.den : Int)) [48] (by kernel_rfl) (fun e => by have := itoa_inj (e.trans itoa_zero.symm); omega) ?_
  obtain ⟨b0, hb0, hb1, hb2⟩ := itoa_first (z := (q.den : Int)) (by omega) (by omega)
  refine G.idxS (Lib.itoa (q.den : Int)) 0 b0 (by kernel_rfl) hb0 ?_
  refine G.cmpG .eql .u8 (b0.toNat : Int) 45 false (by kernel_rfl) rfl (by simp only [cmpZ, decide_eq_false_iff_not]; omega) ?_
  refine G.call0 _ _ (by kernel_rfl) Tryz.call118 (bigReadT h.1) ?_
  intro v4 u4 l4 k4
  obtain ⟨b4, a4, n4, c4, rfl, _, _⟩ := k4.opn
  refine G.call0 _ _ (by kernel_rfl) Tryz.call118 (bigReadT h.den) ?_
  intro v5 u5 l5 k5
  obtain ⟨b5, a5, n5, c5, rfl, _, _⟩ := k5.opn
  refine G.call0 _ _ (by kernel_rfl) Tryz.call168 (bigGcd0 (k4.mono l5) k5 (Nat.le_trans (nl_of_dig h.1) (by omega)) (Nat.le_trans (nl_of_dig h.den) (by omega))) ?_
  intro v6 u6 l6 k6
  rw [show Nat.gcd q.num.natAbs ((q.den : Int)).natAbs = 1 from q.reduced] at k6
  obtain ⟨b6, a6, n6, c6, rfl, _, _⟩ := k6.opn
  refine G.call0 _ _ (by kernel_rfl) Tryz.call120 (bigText0 k6 (Nat.le_trans nl_one (by omega))) ?_
  rintro v7 u7 l7 rfl
  refine G.neSF (Lib.itoa ((1 : Nat) : Int)) [49] (by kernel_rfl) itoa_one ?_
  exact G.ret (.tuple #[.string (mkS (Lib.itoa q.num)), .string (mkS (Lib.itoa (q.den : Int))), .bool true]) (by kernel_rfl) ⟨rfl, rfl⟩
theorem refValid0 {u : PH} {q : Rat} (h : Tx q) : Fn0 Tryz.prog 56 [.string (mkS (ratT q))] u fun v _ => v = .bool true := by
 refine Fn0.of Tryz.func56 (by kernel_rfl) (by kernel_rfl) ?_
 refine G.call0 _ _ (by kernel_rfl) Tryz.call112 (refParts0 h) ?_
 rintro v1 u1 l1 rfl
 exact G.ret (.bool true) (by kernel_rfl) ⟨rfl, rfl⟩
theorem refGive0 {u : PH} {x : Value} {q : Rat} (hx : QP u x q) (h : Tx q) : Fn0 Tryz.prog 107 [x] u fun v _ => v = .tuple #[.string (mkS (ratT q)), .int .i64 0] := by
 obtain ⟨b, a, n, c, a', n', c', rfl, _, hn, hd⟩ := hx.opn
 refine Fn0.of Tryz.func107 (by kernel_rfl) (by kernel_rfl) ?_
 refine G.call0 _ _ (by kernel_rfl) Tryz.call166 (bigGive0 hn (Nat.le_trans (nl_of_dig h.1) (by omega)) h.1) ?_
 rintro v1 u1 l1 rfl
 refine G.call0 _ _ (by kernel_rfl) Tryz.call166 (bigGive0 (hd.mono l1) (Nat.le_trans (nl_of_dig h.den) (by omega)) h.den) ?_
 rintro v2 u2 l2 rfl
 refine G.neqF 0 0 (by kernel_rfl) (by omega) ?_
 refine G.neqF 0 0 (by kernel_rfl) (by omega) ?_
 by_cases h1 : q.den = 1
 ·refine G.eqST (Lib.itoa (q.den : Int)) [49] (by kernel_rfl) (by rw [h1]; exact itoa_one) ?_
  exact G.ret (.tuple #[.string (mkS (Lib.itoa q.num)), .int .i64 0]) (by kernel_rfl) ⟨rfl, by rw [ratT, if_pos h1]⟩
 ·refine G.eqSF (Lib.itoa (q.den : Int)) [49] (by kernel_rfl) (fun e => by have := itoa_inj (e.trans itoa_one.symm); omega) ?_
  have e1 := itoa_len h.1
  have e2 := itoa_len h.den
  refine G.addS (Lib.itoa q.num) [47] (by kernel_rfl) (by simp; omega) ?_
  refine G.addS (Lib.itoa q.num ++ [47]) (Lib.itoa (q.den : Int)) (by kernel_rfl) (by simp; omega) ?_
  exact G.ret (.tuple #[.string (mkS (Lib.itoa q.num ++ [47] ++ Lib.itoa (q.den : Int))), .int .i64 0]) (by kernel_rfl) ⟨rfl, by rw [ratT, if_neg h1]; simp⟩
end Go.Proofs.YtpdboaedoimahaaGreatDoor
end
section
namespace Go.Proofs
open Go.Shelf
def Tryz.lays210_ren : Go.Shelf.Ren := ⟨fun | 210 => 211 | 206 => 236 | n => n, fun | 9 => 9 | 4 => 4 | 3 => 3 | n => n, fun | n => n⟩
def Tryz.lays103_ren : Go.Shelf.Ren := ⟨fun | 103 => 178 | 210 => 211 | 206 => 236 | n => n, fun | 9 => 9 | 4 => 4 | 24 => 243 | 3 => 3 | n => n, fun | n => n⟩
theorem Tryz.lays103 : Go.Proofs.Lays.n103 Tryz.prog Tryz.lays103_ren := {
 mixed := by kernel_rfl
 f103 := Tryz.func178.trans (congrArg some (by kernel_rfl))
 f206 := Tryz.func236.trans (congrArg some (by kernel_rfl))
 f210 := Tryz.func211.trans (congrArg some (by kernel_rfl))
 t3 := Tryz.underlying3
 a3 := Tryz.isAgg3
 z3 := Tryz.sizeOf3
 v3 := Tryz.zeroValue3
 t4 := Tryz.underlying4
 a4 := Tryz.isAgg4
 z4 := Tryz.sizeOf4
 v4 := Tryz.zeroValue4
 t9 := Tryz.underlying9
 a9 := Tryz.isAgg9
 z9 := Tryz.sizeOf9
 v9 := Tryz.zeroValue9
 t24 := Tryz.underlying243
 a24 := Tryz.isAgg243
 z24 := Tryz.sizeOf243
 v24 := Tryz.zeroValue243 }
open Go.RowKit in
theorem Tryz.strings_CutPrefix (s p : ByteArray) (w : World) :
  Calls Tryz.prog 178 #[.string s, .string p] w fun e w' => e = .returned (.tuple #[.string ⟨(Lib.trimPrefix s.data.toList p.data.toList).toArray⟩, .bool (Lib.hasPrefix s.data.toList p.data.toList)]) ∧ w' = w := Any.strings_CutPrefix Tryz.lays103 s p w
def Tryz.laysPu14_ren : Go.Shelf.Ren := ⟨fun | 14 => 179 | 16 => 212 | 17 => 213 | 19 => 237 | 20 => 238 | 21 => 239 | 22 => 240 | 23 => 241 | 24 => 242 | 25 => 258 | 27 => 260 | 26 => 259 | 28 => 268 | 29 => 272 | 30 => 245 | 31 => 246 | 32 => 247 | 33 => 248 | 35 => 142 | 34 => 261 | 36 => 262 | 37 => 263 | 38 => 264 | 39 => 269 | 40 => 270 | n => n, fun | 9 => 9 | 3 => 3 | 22 => 215 | 24 => 246 | 25 => 247 | 4 => 4 | 34 => 292 | 5 => 5 | 36 => 149 | 37 => 120 | 0 => 0 | 39 => 294 | 21 => 21 | 44 => 312 | 47 => 306 | 50 => 322 | 48 => 320 | 2 => 2 | 52 => 301 | 55 => 303 | 59 => 315 | 60 => 213 | 20 => 20 | 61 => 316 | 65 => 325 | 66 => 326 | 67 => 190 | n => n, fun | 0 => 1 | 1 => 2 | 2 => 3 | 3 => 4 | 4 => 5 | n => n⟩
theorem Tryz.laysPu14 : Go.Proofs.LaysPu.n14 Tryz.prog Tryz.laysPu14_ren := {
 mixed := by kernel_rfl
 f14 := Tryz.func179.trans (congrArg some (by kernel_rfl))
 f16 := Tryz.func212.trans (congrArg some (by kernel_rfl))
 f17 := Tryz.func213.trans (congrArg some (by kernel_rfl))
 f19 := Tryz.func237.trans (congrArg some (by kernel_rfl))
 f20 := Tryz.func238.trans (congrArg some (by kernel_rfl))
 f21 := Tryz.func239.trans (congrArg some (by kernel_rfl))
 f22 := Tryz.func240.trans (congrArg some (by kernel_rfl))
 f23 := Tryz.func241.trans (congrArg some (by kernel_rfl))
 f24 := Tryz.func242.trans (congrArg some (by kernel_rfl))
 f25 := Tryz.func258.trans (congrArg some (by kernel_rfl))
 f26 := Tryz.func259.trans (congrArg some (by kernel_rfl))
 f27 := Tryz.func260.trans (congrArg some (by kernel_rfl))
 f28 := Tryz.func268.trans (congrArg some (by kernel_rfl))
 f29 := Tryz.func272.trans (congrArg some (by kernel_rfl))
 f30 := Tryz.func245.trans (congrArg some (by kernel_rfl))
 f31 := Tryz.func246.trans (congrArg some (by kernel_rfl))
 f32 := Tryz.func247.trans (congrArg some (by kernel_rfl))
 f33 := Tryz.func248.trans (congrArg some (by kernel_rfl))
 f34 := Tryz.func261.trans (congrArg some (by kernel_rfl))
 f35 := Tryz.func142.trans (congrArg some (by kernel_rfl))
 f36 := Tryz.func262.trans (congrArg some (by kernel_rfl))
 f37 := Tryz.func263.trans (congrArg some (by kernel_rfl))
 f38 := Tryz.func264.trans (congrArg some (by kernel_rfl))
 f39 := Tryz.func269.trans (congrArg some (by kernel_rfl))
 f40 := Tryz.func270.trans (congrArg some (by kernel_rfl))
 t0 := Tryz.underlying0
 a0 := Tryz.isAgg0
 z0 := Tryz.sizeOf0
 v0 := Tryz.zeroValue0
 i0 := by kernel_rfl
 t2 := Tryz.underlying2
 a2 := Tryz.isAgg2
 z2 := Tryz.sizeOf2
 v2 := Tryz.zeroValue2
 i2 := by kernel_rfl
 t3 := Tryz.underlying3
 a3 := Tryz.isAgg3
 z3 := Tryz.sizeOf3
 v3 := Tryz.zeroValue3
 i3 := by kernel_rfl
 t4 := Tryz.underlying4
 a4 := Tryz.isAgg4
 z4 := Tryz.sizeOf4
 v4 := Tryz.zeroValue4
 i4 := by kernel_rfl
 t5 := Tryz.underlying5
 a5 := Tryz.isAgg5
 z5 := Tryz.sizeOf5
 v5 := Tryz.zeroValue5
 i5 := by kernel_rfl
 t9 := Tryz.underlying9
 a9 := Tryz.isAgg9
 z9 := Tryz.sizeOf9
 v9 := Tryz.zeroValue9
 i9 := by kernel_rfl
 t20 := Tryz.underlying20
 a20 := Tryz.isAgg20
 z20 := Tryz.sizeOf20
 v20 := Tryz.zeroValue20
 i20 := by kernel_rfl
 t21 := Tryz.underlying21
 a21 := Tryz.isAgg21
 z21 := Tryz.sizeOf21
 v21 := Tryz.zeroValue21
 i21 := by kernel_rfl
 t22 := Tryz.underlying215
 a22 := Tryz.isAgg215
 z22 := Tryz.sizeOf215
 v22 := Tryz.zeroValue215
 i22 := by kernel_rfl
 t24 := Tryz.underlying246
 a24 := Tryz.isAgg246
 z24 := Tryz.sizeOf246
 v24 := Tryz.zeroValue246
 i24 := by kernel_rfl
 t25 := Tryz.underlying247
 a25 := Tryz.isAgg247
 z25 := Tryz.sizeOf247
 v25 := Tryz.zeroValue247
 i25 := by kernel_rfl
 t34 := Tryz.underlying292
 a34 := Tryz.isAgg292
 z34 := Tryz.sizeOf292
 v34 := Tryz.zeroValue292
 i34 := by kernel_rfl
 c34 := by kernel_rfl
 t36 := Tryz.underlying149
 a36 := Tryz.isAgg149
 z36 := Tryz.sizeOf149
 v36 := Tryz.zeroValue149
 i36 := by kernel_rfl
 t37 := Tryz.underlying120
 a37 := Tryz.isAgg120
 z37 := Tryz.sizeOf120
 v37 := Tryz.zeroValue120
 i37 := by kernel_rfl
 t39 := Tryz.underlying294
 a39 := Tryz.isAgg294
 z39 := Tryz.sizeOf294
 v39 := Tryz.zeroValue294
 i39 := by kernel_rfl
 t44 := Tryz.underlying312
 a44 := Tryz.isAgg312
 z44 := Tryz.sizeOf312
 v44 := Tryz.zeroValue312
 i44 := by kernel_rfl
 t47 := Tryz.underlying306
 a47 := Tryz.isAgg306
 z47 := Tryz.sizeOf306
 v47 := Tryz.zeroValue306
 i47 := by kernel_rfl
 t48 := Tryz.underlying320
 a48 := Tryz.isAgg320
 z48 := Tryz.sizeOf320
 v48 := Tryz.zeroValue320
 i48 := by kernel_rfl
 t50 := Tryz.underlying322
 a50 := Tryz.isAgg322
 z50 := Tryz.sizeOf322
 v50 := Tryz.zeroValue322
 i50 := by kernel_rfl
 t52 := Tryz.underlying301
 a52 := Tryz.isAgg301
 z52 := Tryz.sizeOf301
 v52 := Tryz.zeroValue301
 i52 := by kernel_rfl
 t55 := Tryz.underlying303
 a55 := Tryz.isAgg303
 z55 := Tryz.sizeOf303
 v55 := Tryz.zeroValue303
 i55 := by kernel_rfl
 t59 := Tryz.underlying315
 a59 := Tryz.isAgg315
 z59 := Tryz.sizeOf315
 v59 := Tryz.zeroValue315
 i59 := by kernel_rfl
 t60 := Tryz.underlying213
 a60 := Tryz.isAgg213
 z60 := Tryz.sizeOf213
 v60 := Tryz.zeroValue213
 i60 := by kernel_rfl
 t61 := Tryz.underlying316
 a61 := Tryz.isAgg316
 z61 := Tryz.sizeOf316
 t65 := Tryz.underlying325
 a65 := Tryz.isAgg325
 z65 := Tryz.sizeOf325
 v65 := Tryz.zeroValue325
 i65 := by kernel_rfl
 t66 := Tryz.underlying326
 a66 := Tryz.isAgg326
 z66 := Tryz.sizeOf326
 v66 := Tryz.zeroValue326
 i66 := by kernel_rfl
 t67 := Tryz.underlying190
 a67 := Tryz.isAgg190
 z67 := Tryz.sizeOf190
 v67 := Tryz.zeroValue190
 i67 := by kernel_rfl
 g0 := by kernel_rfl
 m0 := by kernel_rfl
 g1 := by kernel_rfl
 m1 := by kernel_rfl
 g2 := by kernel_rfl
 m2 := by kernel_rfl
 g3 := by kernel_rfl
 m3 := by kernel_rfl
 g4 := by kernel_rfl
 m4 := by kernel_rfl }
open Go.RowKit in
theorem Tryz.strconv_ParseUint_10_at64_ok (s : ByteArray) (hmax : s.size ≤ 9223372036854775806) (u : Nat) (h : Lib.parseUintB 64 s.data.toList = .ok u) (w : World) :
  Calls Tryz.prog 179 #[.string s, .int .i64 10, .int .i64 64] w fun e w' => e = .returned (.tuple #[.int .u64 u, .nilIface]) ∧ (w' = w ∨ w' = Lib.bytesWorld w 5 s) := Any.strconv_ParseUint_10_at64_ok Tryz.laysPu14 s hmax u h w
def Tryz.lays219_ren : Go.Shelf.Ren := ⟨fun | 219 => 209 | 217 => 232 | 225 => 233 | 224 => 234 | 267 => 235 | 266 => 256 | 314 => 257 | n => n, fun | 9 => 9 | 3 => 3 | 4 => 4 | 5 => 5 | 46 => 149 | 146 => 218 | 51 => 213 | n => n, fun | 1 => 0 | n => n⟩
theorem Tryz.lays219 : Go.Proofs.Lays.n219 Tryz.prog Tryz.lays219_ren := {
 mixed := by kernel_rfl
 f217 := Tryz.func232.trans (congrArg some (by kernel_rfl))
 f219 := Tryz.func209.trans (congrArg some (by kernel_rfl))
 f224 := Tryz.func234.trans (congrArg some (by kernel_rfl))
 f225 := Tryz.func233.trans (congrArg some (by kernel_rfl))
 f266 := Tryz.func256.trans (congrArg some (by kernel_rfl))
 f267 := Tryz.func235.trans (congrArg some (by kernel_rfl))
 f314 := Tryz.func257.trans (congrArg some (by kernel_rfl))
 t3 := Tryz.underlying3
 a3 := Tryz.isAgg3
 z3 := Tryz.sizeOf3
 v3 := Tryz.zeroValue3
 t4 := Tryz.underlying4
 a4 := Tryz.isAgg4
 z4 := Tryz.sizeOf4
 v4 := Tryz.zeroValue4
 t5 := Tryz.underlying5
 a5 := Tryz.isAgg5
 z5 := Tryz.sizeOf5
 v5 := Tryz.zeroValue5
 t9 := Tryz.underlying9
 a9 := Tryz.isAgg9
 z9 := Tryz.sizeOf9
 v9 := Tryz.zeroValue9
 t46 := Tryz.underlying149
 a46 := Tryz.isAgg149
 z46 := Tryz.sizeOf149
 v46 := Tryz.zeroValue149
 t51 := Tryz.underlying213
 a51 := Tryz.isAgg213
 z51 := Tryz.sizeOf213
 v51 := Tryz.zeroValue213
 t146 := Tryz.underlying218
 a146 := Tryz.isAgg218
 z146 := Tryz.sizeOf218
 v146 := Tryz.zeroValue218
 g1 := by kernel_rfl }
open Go.RowKit Go.Lib in
theorem Tryz.stringslite_Index_one (s : ByteArray) (c : UInt8) (w : World) :
  Calls Tryz.prog 209 #[.string s, .string ⟨#[c]⟩] w fun e w' => e = .returned (.int .i64 (Lib.indexByte s.data.toList c)) ∧ w' = w := Any.stringslite_Index_one Tryz.lays219 s c w
def Tryz.lays101_ren : Go.Shelf.Ren := ⟨fun | 101 => 176 | 208 => 210 | 206 => 236 | n => n, fun | 9 => 9 | 4 => 4 | 3 => 3 | n => n, fun | n => n⟩
theorem Tryz.lays101 : Go.Proofs.Lays.n101 Tryz.prog Tryz.lays101_ren := {
 mixed := by kernel_rfl
 f101 := Tryz.func176.trans (congrArg some (by kernel_rfl))
 f206 := Tryz.func236.trans (congrArg some (by kernel_rfl))
 f208 := Tryz.func210.trans (congrArg some (by kernel_rfl))
 t3 := Tryz.underlying3
 a3 := Tryz.isAgg3
 z3 := Tryz.sizeOf3
 v3 := Tryz.zeroValue3
 t4 := Tryz.underlying4
 a4 := Tryz.isAgg4
 z4 := Tryz.sizeOf4
 v4 := Tryz.zeroValue4
 t9 := Tryz.underlying9
 a9 := Tryz.isAgg9
 z9 := Tryz.sizeOf9
 v9 := Tryz.zeroValue9 }
open Go.RowKit Go.Lib in
theorem Tryz.strings_TrimPrefix (s p : ByteArray) (w : World) :
  Calls Tryz.prog 176 #[.string s, .string p] w fun e w' => e = .returned (.string ⟨(Lib.trimPrefix s.data.toList p.data.toList).toArray⟩) ∧ w' = w := Any.strings_TrimPrefix Tryz.lays101 s p w
def Tryz.lays212_ren : Go.Shelf.Ren := ⟨fun | 212 => 84 | 263 => 148 | 264 => 149 | n => n, fun | 46 => 149 | 51 => 213 | 146 => 218 | 53 => 215 | 148 => 220 | n => n, fun | n => n⟩
theorem Tryz.lays212 : Go.Proofs.Lays.n212 Tryz.prog Tryz.lays212_ren := {
 mixed := by kernel_rfl
 f212 := Tryz.func84.trans (congrArg some (by kernel_rfl))
 f263 := Tryz.func148.trans (congrArg some (by kernel_rfl))
 f264 := Tryz.func149.trans (congrArg some (by kernel_rfl))
 t46 := Tryz.underlying149
 a46 := Tryz.isAgg149
 z46 := Tryz.sizeOf149
 v46 := Tryz.zeroValue149
 t51 := Tryz.underlying213
 a51 := Tryz.isAgg213
 z51 := Tryz.sizeOf213
 v51 := Tryz.zeroValue213
 t53 := Tryz.underlying215
 a53 := Tryz.isAgg215
 z53 := Tryz.sizeOf215
 v53 := Tryz.zeroValue215
 t146 := Tryz.underlying218
 a146 := Tryz.isAgg218
 z146 := Tryz.sizeOf218
 v146 := Tryz.zeroValue218
 t148 := Tryz.underlying220
 a148 := Tryz.isAgg220
 z148 := Tryz.sizeOf220
 v148 := Tryz.zeroValue220 }
open Go.RowKit Go.Lib in
theorem Tryz.bits_Mul (x y : Nat) (hx : x < 18446744073709551616) (hy : y < 18446744073709551616) (w : World) :
  Calls Tryz.prog 84 #[.int .u64 x, .int .u64 y] w fun e w' => e = .returned (.tuple #[.int .u64 ((x * y / 18446744073709551616 : Nat) : Int), .int .u64 ((x * y % 18446744073709551616 : Nat) : Int)]) ∧ w' = w := Any.bits_Mul Tryz.lays212 x y hx hy w
end Go.Proofs
end
section
set_option linter.unusedVariables false
namespace Go.Proofs.YtpdboaedoimahaaGreatDoor
open Go.Shelf Go.RowKit
end Go.Proofs.YtpdboaedoimahaaGreatDoor
end
section
set_option linter.unusedVariables false
namespace Go.Proofs.YtpdboaedoimahaaGreatDoor
open Go.Shelf Go.RowKit Go.Sort Go.Lib
end Go.Proofs.YtpdboaedoimahaaGreatDoor
end
section
set_option linter.unusedVariables false
namespace Go.Proofs.YtpdboaedoimahaaGreatDoor
open Go.Shelf Go.RowKit Go.Sort Go.Lib
theorem ownsRow_ext {w w' : World} {B : Nat} {e : TypeId} {size : Nat} {v : Value} {n : Nat} {xs : List Value} (h : w.ownsRow B e size v n xs) (x : Ext w w') : w'.ownsRow B e size v n xs := by
 obtain ⟨hl, h0 | ⟨g, cap, cur, hv, hb, hh, r⟩⟩ := h
 ·exact ⟨hl, .inl h0⟩
 ·exact ⟨hl, .inr ⟨g, cap, cur, hv, hb, by rw [Below.block x g (lt_of_at hh)]; exact hh, r⟩⟩
end Go.Proofs.YtpdboaedoimahaaGreatDoor
end
section
set_option linter.unusedVariables false
namespace Go.Proofs.YtpdboaedoimahaaGreatDoor
open Go.Shelf Go.RowKit Go.Sort Go.Lib
end Go.Proofs.YtpdboaedoimahaaGreatDoor
end
section
set_option linter.unusedVariables false
namespace Go.Proofs.YtpdboaedoimahaaGreatDoor
open Go.Shelf Go.RowKit Go.Sort Go.Lib
theorem parseM_ok {l : List UInt8} (hd : IsDig l) : ∀ (acc : Nat), rdA acc l < 1000000000000000000 → parseUintM 18446744073709551615 acc l = .ok (rdA acc l) := by
 induction l with
 | nil => intro acc _; rfl
 | cons b l ih =>
  intro acc h
  have hb := hd b (by simp)
  have e1 : rdA acc (b :: l) = rdA (10 * acc + (b.toNat - 48)) l := rfl
  rw [e1] at h ⊢
  have h2 : 10 * acc + (b.toNat - 48) ≤ rdA (10 * acc + (b.toNat - 48)) l := by
   rw [rdA_eq]
   have : 1 ≤ 10 ^ l.length := Nat.one_le_pow _ _ (by omega)
   have := Nat.mul_le_mul_left (10 * acc + (b.toNat - 48)) this
   omega
  have ih' := ih (fun x hx => hd x (by simp [hx])) (10 * acc + (b.toNat - 48)) h
  rw [parseUintM, if_pos hb, if_neg (by omega)]
  rw [show 10 * acc + (b.toNat - 48) = acc * 10 + (b.toNat - 48) by omega] at ih' h h2 ⊢
  first
   | (rw [if_neg (by omega)]; exact ih')
   | (simp only []; rw [if_neg (by omega)]; exact ih')
theorem parseB_ok {l : List UInt8} (hd : IsDig l) (hl : l ≠ []) (h9 : l.length ≤ 9) : parseUintB 64 l = .ok (rd l) := by
 rw [parseUintB, if_neg hl]
 refine parseM_ok hd 0 ?_
 have h1 := rd_lt hd
 have h2 : 10 ^ l.length ≤ 10 ^ 9 := Nat.pow_le_pow_right (by omega) h9
 have h3 : rdA 0 l = rd l := rfl
 omega
theorem trimPrefix_signed {neg : Bool} {l : List UInt8} (hd : IsDig l) (hl : l ≠ []) : trimPrefix (signed neg l) [45] = l ∧ hasPrefix (signed neg l) [45] = neg := by
 cases neg
 ·cases l with
  | nil => exact absurd rfl hl
  | cons b l =>
   have hb := hd b (by simp)
   have : ¬ (45 : UInt8) = b := by rintro rfl; simp at hb
   simp [signed, trimPrefix, hasPrefix, List.isPrefixOf, this]
 ·simp [signed, trimPrefix, hasPrefix, List.isPrefixOf]
theorem row_of_owns {w : World} {B : Nat} {e : TypeId} {a : Option Addr} {n c : Nat} {xs : List Value} (h : w.ownsRow B e 1 (.slice a n c) n xs) (hn : xs.length = n) : Row w a xs := by
 intro j hj
 rcases h.2 with ⟨h1, h2⟩ | ⟨g, cap, cur, h1, h2⟩
 ·omega
 ·simp only [Value.slice.injEq] at h1
  obtain ⟨rfl, _, rfl⟩ := h1
  refine ⟨g, 0, rfl, ?_⟩
  have := h.cells (g := g) rfl j (xs.getD j (.bool false)) (by rw [List.getD_eq_getElem?_getD, List.getElem?_eq_getElem hj]; rfl)
  rw [Lib.add_plain] at this; exact this
theorem ext_bytesWorld (w : World) (e : TypeId) (s : ByteArray) : Ext w (bytesWorld w e s) := bytesWorld_below w e s
def ReadRel (W0 : World) (B : Nat) (l : List UInt8) (v i : Value) (wr : World) : Prop :=
 ∃ (e : Int) (ys : List Nat), e ≤ l.length ∧ i = .int .i64 e ∧ -9 < e ∧ ys.length + e.toNat ≤ l.length ∧ ReadSt (rd l) (l.take e.toNat) ys ∧ wr.ownsRow B 215 1 v ys.length (u64s ys) ∧ Below B W0 wr
theorem u64_info : (Tryz.prog.info? 215).map (fun i => (i.zero, i.size, i.bytes)) = some (some (.int .u64 0), 1, 8) := by kernel_rfl
set_option maxRecDepth 100000 in
set_option maxHeartbeats 400000 in
theorem numRead_any (neg : Bool) (l : List UInt8) (w : World) (hd : IsDig l) (hl : l ≠ []) (hlen : l.length ≤ 1000000000) :
  Calls Tryz.prog 127 #[.string ⟨(signed neg l).toArray⟩] w (RetNum w (sgnd neg (rd l))) := by
 obtain ⟨i0, hi, hz0, hz1, hz2⟩ := info_parts u64_info
 obtain ⟨ht1, ht2⟩ := trimPrefix_signed (neg := neg) hd hl
 have HD := Lib.hid hd
 have HL := Lib.hid hl
 clear hd hl
 obtain ⟨w1, hw1⟩ : ∃ w1, w1 = w.alloc (Obj.cells #[Value.bool false, Value.slice none 0 0] 107) := ⟨_, rfl⟩
 have hs1 : w1.heap.size = w.heap.size + 1 := by rw [hw1]; exact size_alloc' _ _
 have HW1 := Lib.hid hw1
 have HS1 := Lib.hid hs1
 clear hw1 hs1
 go_enter Tryz.func127, Tryz.ntmps127
 go_wp2_with fail
 rw [← HW1.out]
 refine (Tryz.strings_CutPrefix ⟨(signed neg l).toArray⟩ ⟨#[45]⟩ w1).mono ?_
 rintro e w2 ⟨rfl, rfl⟩
 rw [show trimPrefix (⟨(signed neg l).toArray⟩ : ByteArray).data.toList (⟨#[45]⟩ : ByteArray).data.toList = l from ht1, show hasPrefix (⟨(signed neg l).toArray⟩ : ByteArray).data.toList (⟨#[45]⟩ : ByteArray).data.toList = neg from ht2]
 clear ht1 ht2
 go_wp2_with fail
 go_loopw [5, 6] (ReadRel w2 w2.heap.size l) (fun _ i _ => (RowKit.intOf i + 9).toNat)
 case atStart => exact ⟨l.length, [], by omega, by simp, by omega, by simp, ⟨Low.nil, by simpa using HD.out, by simp [val]⟩, ⟨rfl, .inl ⟨rfl, rfl⟩⟩, Below.refl _ _⟩
 case round =>
  obtain ⟨e, ys, he, rfl, he9, hle, hst, hown, hbel⟩ := hrel
  obtain ⟨a, n, c, rfl⟩ : ∃ a n c, u5 = .slice a n c := by
   rcases hown.2 with ⟨h1, h2⟩ | ⟨g, cap, cur, h1, h2⟩
   ·exact ⟨_, _, _, h1⟩
   ·exact ⟨_, _, _, h1⟩
  have HST := Lib.hid hst
  have HOWN := Lib.hid hown
  have HBEL := Lib.hid hbel
  have hsz := hbel.size
  clear hst hown hbel
  by_cases h0 : 0 < e
  ·obtain ⟨E, rfl⟩ : ∃ E : Nat, e = E := ⟨e.toNat, by omega⟩
   have hEl : E ≤ l.length := by omega
   have hE0 : 0 < E := by omega
   have hmx : max (0 : Int) ((E : Int) - 9) = ((E - 9 : Nat) : Int) := by omega
   have hsl : ∀ W, (Instr.sliceAt 9 (.string ⟨l.toArray⟩) (some (.int .i64 ((E - 9 : Nat) : Int))) (some (.int .i64 (E : Int))) none).run Tryz.prog W = .ok (.string ⟨((l.take E).drop (E - 9)).toArray⟩) W := by
    intro W
    have h1 : (0 : Int) ≤ ((E - 9 : Nat) : Int) ∧ ((E - 9 : Nat) : Int) ≤ (E : Int) := by omega
    have h2 : (0 : Int) ≤ (E : Int) ∧ (E : Int) ≤ (⟨l.toArray⟩ : ByteArray).size := by rw [Lib.size_mk]; omega
    have h3 : (⟨l.toArray⟩ : ByteArray).extract (E - 9) E = ⟨((l.take E).drop (E - 9)).toArray⟩ := by
     rw [Lib.extract_mk, List.drop_take]
    simp only [Instr.sliceAt, Sem.run_bind, run_underlying Tryz.underlying9, Result.andThen_ok, Instr.slice, Instr.sliceBounds, Instr.sliceBound, asIntOf, Sem.run_pure, if_true, Option.isSome, Sem.run_ite, h1, h2, and_self, Int.toNat_natCast]
    simp [h3]
   have hdd : IsDig ((l.take E).drop (E - 9)) := (HD.out.take E).drop (E - 9)
   have hl9 : ((l.take E).drop (E - 9)).length ≤ 9 := by simp; omega
   have hne : (l.take E).drop (E - 9) ≠ [] := by intro h; have := congrArg List.length h; simp at this; omega
   have hrd := rd_lt hdd
   have hr9 : rd ((l.take E).drop (E - 9)) < 1000000000 := Nat.lt_of_lt_of_le hrd (by rw [show (1000000000 : Nat) = 10 ^ 9 from rfl]; exact Nat.pow_le_pow_right (by omega) hl9)
   have hstep := HST.out.step
   rw [show (l.take ((E : Int)).toNat) = l.take E from rfl, List.length_take, Nat.min_eq_left hEl] at hstep
   have hpu := Tryz.strconv_ParseUint_10_at64_ok ⟨((l.take E).drop (E - 9)).toArray⟩ (by rw [Lib.size_mk]; omega) (rd ((l.take E).drop (E - 9))) (parseB_ok hdd hne hl9) wr
   have HPU := Lib.hid hpu
   have HSTEP := Lib.hid hstep
   clear hpu hstep hrd hdd hne hl9
   go_wp2_with fail
   obtain ⟨d, hdef⟩ : ∃ d, d = rd ((l.take E).drop (E - 9)) := ⟨_, rfl⟩
   rw [← hdef] at hr9
   have HDEF := Lib.hid hdef
   clear hdef
   refine HPU.out.mono ?_
   rintro e w3 ⟨rfl, hw3⟩
   rw [← HDEF.out]
   have HX3 : RowKit.Hid (Ext wr w3) := Lib.hid (by
    rcases hw3 with rfl | rfl
    ·exact Ext.refl _
    ·exact ext_bytesWorld _ _ _)
   clear hw3
   have hsz3 := HX3.out.size
   go_wp2_with (at_builtin; refine wpList_append_own _ rfl _ _ 105 rfl w2.heap.size 215 i0 (.int .u64 0) 1 8 Tryz.underlying105 hi hz0 hz1 hz2 rfl (by decide) _ _ _ rfl ((ownsRow_ext HOWN.out HX3.out).alloc _) ⟨w3.heap.size, 0, none⟩ 1 1 [.int .u64 (d : Int)] rfl rfl ?c1 ?c2 ?c3 ?c4 ?c5 ?_)
   case c1 =>
    intro j u hj
    match j, hj with
    | 0, hj => simp at hj; subst hj; simp [Addr.add]
   case c2 => intro u hu; simp at hu; subst hu; rfl
   case c3 => unfold maxLen; omega
   case c4 => omega
   case c5 => simp; omega
   intro v' w4 hown' hgrow _
   go_wp2_with fail
   refine ⟨⟨(E : Int) - 9, ys ++ [d], by omega, by go_num, by omega, by simp; omega, ?_, by simpa [u64s] using hown', ?_⟩, by simp only [RowKit.intOf]; omega⟩
   ·rw [HDEF.out, show (l.take ((E : Int) - 9).toNat) = (l.take E).take (E - 9) by rw [List.take_take]; congr 1; omega]
    exact HSTEP.out
   ·have h5 : Below w2.heap.size wr w3 := Below.mono HX3.out (by omega)
    exact (((HBEL.out.trans h5).alloc (by omega) _).grown hgrow (by simp; omega) (fun k hk => (HOWN.out.lt k hk).1))
  ·have hln := HOWN.out.1
   have hval : val ys = rd l := by
    have := HST.out.sum
    rw [show e.toNat = 0 by omega] at this
    simpa [rd, rdA] using this.symm
   obtain ⟨rfl, hcap⟩ : n = ys.length ∧ ys.length ≤ c := by
    rcases HOWN.out.2 with ⟨h1, h2⟩ | ⟨g, cap, cur, h1, h2, h3, h4, _⟩
    ·simp at h1; omega
    ·simp at h1; obtain ⟨_, rfl, rfl⟩ := h1; exact ⟨rfl, h4⟩
   have hrow := row_of_owns HOWN.out (by simp)
   have HROW := Lib.hid hrow
   have HVAL := Lib.hid hval
   clear hrow hval hln
   go_wp2_with fail
   refine (trim_len a c ys.length ys wr rfl (by omega) hcap HROW.out).mono ?_
   rintro e w' ⟨rfl, hww⟩
   subst hww
   go_wp2_with fail
   refine (number_any neg _ (rd l) wr (nat_of_trim HST.out.low HROW.out HVAL.out hcap) (Nat.le_trans (nl_le_of_lt (k := l.length) (Nat.lt_of_lt_of_le (rd_lt HD.out) (by rw [ten9]; exact Nat.pow_le_pow_right (by omega) (by omega)))) (by omega))).mono ?_
   rintro e w5 ⟨v5, rfl, ⟨a5, n5, c5, rfl, hs5⟩, hx5⟩
   have HX5 := Lib.hid hx5
   have HS5 := Lib.hid hs5
   have hlt : w.heap.size < w2.heap.size := by rw [HS1.out]; omega
   have BB : RowKit.Hid (w5.heap[w.heap.size]? = some (.cells #[.bool false, .slice none 0 0] 107 (0, 0))) := Lib.hid (by
    rw [Below.block HX5.out _ (by omega), HBEL.out.block _ hlt, HW1.out, heap_alloc_eq])
   have d0 := cell2_0 BB.out
   have d1 := cell2_1 BB.out
   have f0 := frozen_of_row _ _ 0 _ _ BB.out
   have f1 := frozen_of_row _ _ 1 _ _ BB.out
   clear hs5 hx5
   go_wp2_with fail
   have HXX : Ext w w5 := by
    refine Ext.trans (b := w2) (by rw [HW1.out]; exact Ext.alloc (Ext.refl w) _) ?_
    exact Below.trans HBEL.out (Below.mono HX5.out (by omega))
   refine ret_num rfl rfl (blk2_set BB.out) rfl ⟨_, rfl, ?_, ext2 HXX (Nat.le_refl _) _ _⟩
   have hs := HS5.out.grown (noInts2 BB.out) (grown2 _ _ (.bool (decide (sgnd neg (rd l) < 0))) (.slice a5 n5 c5))
   exact num_of' rfl hs
end Go.Proofs.YtpdboaedoimahaaGreatDoor
end
section
set_option linter.unusedSectionVars false
set_option linter.unusedVariables false
namespace Go.Proofs.YtpdboaedoimahaaGreatDoor
open Go.RowKit
section
variable {u : PH} {x : Value}
theorem numRead0 {z : Int} (h : Lib.nDigits z.natAbs ≤ 400) : Fn0 Tryz.prog 127 [.string (mkS (Lib.itoa z))] u fun v u' => NumP u' v z := by
 refine Fn0.ofW (fun v w => NumV w v z) (fun w _ => ?_) (fun _ _ _ h _ c _ => NumP.ofW h c)
 have := numRead_any (decide (z < 0)) (Lib.decDigits z.natAbs) w (dec_dig _) (dec_ne_nil _) (by rw [Lib.decDigits_length]; omega)
 rw [sgnd_itoa, ← itoa_signed] at this
 exact this
end
theorem NatP.at {u : PH} {a : Option Addr} {n c k j : Nat} (h : NatP u (.slice a n c) k) (hj : j < (limbs k).length) : ∃ b off, a = some ⟨b, off, none⟩ ∧ ElP u b (off + j * 1) (.int .u64 ((limbs k).getD j 0 : Nat)) := by
 obtain ⟨a', c', h1, h2, h3⟩ := h
 simp only [Value.slice.injEq] at h1
 obtain ⟨rfl, _, rfl⟩ := h1
 obtain ⟨b, off, e1, e2⟩ := h3 j (by simpa using hj)
 refine ⟨b, off, e1, fun i y hi => ?_⟩
 have hx : (u64s (limbs k)).getD j (.bool false) = .int .u64 ((limbs k).getD j 0 : Nat) := by simp [u64s, hj]
 rw [hx] at e2
 have : i = 0 ∧ y = .int .u64 ((limbs k).getD j 0 : Nat) := by
  match i, hi with
  | 0, hi => simp [Value.cells] at hi; simp [hi]
 obtain ⟨rfl, rfl⟩ := this
 simpa using e2
end Go.Proofs.YtpdboaedoimahaaGreatDoor
end
section
set_option linter.unusedSectionVars false
set_option linter.unusedVariables false
namespace Go.Proofs.YtpdboaedoimahaaGreatDoor
open Go.RowKit
theorem index_none {l : List UInt8} {c : UInt8} (h : ∀ b ∈ l, b ≠ c) : Lib.indexByte l c = -1 := by
 induction l with
 | nil => rfl
 | cons b l ih =>
  have h1 : (b == c) = false := by rw [beq_eq_false_iff_ne]; exact h b (by simp)
  rw [Lib.indexByte, h1, ih (fun x hx => h x (by simp [hx]))]; rfl
theorem index_at {l r : List UInt8} {c : UInt8} (h : ∀ b ∈ l, b ≠ c) : Lib.indexByte (l ++ c :: r) c = l.length := by
 induction l with
 | nil => simp [Lib.indexByte]
 | cons b l ih =>
  have h1 : (b == c) = false := by rw [beq_eq_false_iff_ne]; exact h b (by simp)
  have h2 := ih (fun x hx => h x (by simp [hx]))
  rw [List.cons_append, Lib.indexByte, h1, h2]
  have h3 : (((l.length : Nat) : Int) == -1) = false := by rw [beq_eq_false_iff_ne]; omega
  simp [h3]
theorem index0 {u : PH} {l : List UInt8} {c : UInt8} : Fn0 Tryz.prog 209 [.string (mkS l), .string (mkS [c])] u fun v _ => v = .int .i64 (Lib.indexByte l c) :=
 Fn0.ofW (fun v _ => v = .int .i64 (Lib.indexByte l c)) (fun w _ => (Tryz.stringslite_Index_one (mkS l) c w).mono fun _ _ ⟨e, h⟩ => ⟨_, e, rfl, by rw [h]; exact Ext.refl _⟩) (fun _ _ _ h _ _ _ => h)
theorem cutN {u : PH} {T : List UInt8} (h : ∀ b ∈ T, b ≠ 47) : Fn0 Tryz.prog 124 [.string (mkS T), .string (mkS [47])] u fun v _ => v = .tuple #[.string (mkS T), .string (mkS []), .bool false] := by
 have hin : Fn0 Tryz.prog 175 [.string (mkS T), .string (mkS [47])] u fun v _ => v = .tuple #[.string (mkS T), .string (mkS []), .bool false] := by
  refine Fn0.of Tryz.func175 (by kernel_rfl) (by kernel_rfl) ?_
  refine G.call0 _ _ (by kernel_rfl) Tryz.call209 (index0 (l := T) (c := 47)) ?_
  rintro v1 u1 l1 rfl
  rw [index_none h]
  refine G.geqF (-1) 0 (by kernel_rfl) (by omega) ?_
  exact G.ret (.tuple #[.string (mkS T), .string (mkS []), .bool false]) (by kernel_rfl) ⟨rfl, rfl⟩
 refine Fn0.of Tryz.func124 (by kernel_rfl) (by kernel_rfl) ?_
 refine G.call0 _ _ (by kernel_rfl) Tryz.call175 hin ?_
 rintro v1 u1 l1 rfl
 exact G.ret _ (by kernel_rfl) ⟨rfl, rfl⟩
theorem cutS {u : PH} {A B : List UInt8} (h : ∀ b ∈ A, b ≠ 47) (hl : (A ++ 47 :: B).length ≤ 1000000) : Fn0 Tryz.prog 124 [.string (mkS (A ++ 47 :: B)), .string (mkS [47])] u fun v _ => v = .tuple #[.string (mkS A), .string (mkS B), .bool true] := by
 have hlen : (A ++ 47 :: B).length = A.length + 1 + B.length := by simp; omega
 have htk : (A ++ 47 :: B).take A.length = A := by simp
 have hdr : (A ++ 47 :: B).drop (A.length + 1) = B := by rw [← List.drop_drop]; simp
 have hix := index_at (r := B) h
 generalize A ++ 47 :: B = T at *
 have hsize : (mkS T).size = T.length := Go.Lib.size_mk _
 have hin : Fn0 Tryz.prog 175 [.string (mkS T), .string (mkS [47])] u fun v _ => v = .tuple #[.string (mkS A), .string (mkS B), .bool true] := by
  refine Fn0.of Tryz.func175 (by kernel_rfl) (by kernel_rfl) ?_
  refine G.call0 _ _ (by kernel_rfl) Tryz.call209 (index0 (l := T) (c := 47)) ?_
  rintro v1 u1 l1 rfl
  rw [hix]
  refine G.geqT (A.length : Int) 0 (by kernel_rfl) (by omega) ?_
  refine G.sliceSTo T A.length (by kernel_rfl) (by kernel_rfl) (by omega) ?_
  rw [htk]
  refine G.add (A.length : Int) 1 ((A.length + 1 : Nat) : Int) (by kernel_rfl) (by omega) (by omega) (by omega) ?_
  refine G.sliceSFrom T (A.length + 1) (by kernel_rfl) (by kernel_rfl) (by omega) ?_
  rw [hdr]
  exact G.ret (.tuple #[.string (mkS A), .string (mkS B), .bool true]) (by kernel_rfl) ⟨rfl, rfl⟩
 refine Fn0.of Tryz.func124 (by kernel_rfl) (by kernel_rfl) ?_
 refine G.call0 _ _ (by kernel_rfl) Tryz.call175 hin ?_
 rintro v1 u1 l1 rfl
 exact G.ret _ (by kernel_rfl) ⟨rfl, rfl⟩
theorem cutT {u : PH} {q : Rat} (h : Tx q) : Fn0 Tryz.prog 124 [.string (mkS (ratT q)), .string (mkS [47])] u fun v _ => v = .tuple #[.string (mkS (Lib.itoa q.num)), .string (mkS (if q.den = 1 then [] else Lib.itoa (q.den : Int))), .bool (decide (q.den ≠ 1))] := by
 have l1 := itoa_len h.1
 have l2 := itoa_len h.den
 unfold ratT
 by_cases hd : q.den = 1
 ·rw [if_pos hd, if_pos hd, decide_eq_false (by simp [hd])]
  exact cutN (itoa_no47 _)
 ·rw [if_neg hd, if_neg hd, decide_eq_true hd]
  exact cutS (itoa_no47 _) (by simp; omega)
end Go.Proofs.YtpdboaedoimahaaGreatDoor
end
section
set_option linter.unusedSectionVars false
set_option linter.unusedVariables false
namespace Go.Proofs.YtpdboaedoimahaaGreatDoor
open Go.RowKit
def strsV (ts : List (List UInt8)) : List Value := ts.map fun t => Value.string (mkS t)
theorem strsV_length (ts : List (List UInt8)) : (strsV ts).length = ts.length := by simp [strsV]
theorem strsV_ok (ts : List (List UInt8)) : ElsOK 1 (strsV ts) := by
 intro e he
 simp only [strsV, List.mem_map] at he
 obtain ⟨b, _, rfl⟩ := he
 exact ⟨rfl, fun x hx => by simp [Value.cells] at hx; subst hx; rfl⟩
def StrsP (u : PH) (v : Value) (ts : List (List UInt8)) : Prop := ListP u v 1 (strsV ts)
theorem ListP.opn {u : PH} {v : Value} {sz : Nat} {es : List Value} (h : ListP u v sz es) : ∃ a c, v = .slice a es.length c := by
 obtain ⟨a, c, rfl, _⟩ := h; exact ⟨a, c, rfl⟩
theorem ListP.at' {u : PH} {a : Option Addr} {n c sz : Nat} {es : List Value} (h : ListP u (.slice a n c) sz es) {j : Nat} {e : Value} (hj : es[j]? = some e) : ∃ b off, a = some ⟨b, off, none⟩ ∧ ElP u b (off + j * sz) e := by
 obtain ⟨a', c', h1, h2, h3⟩ := h
 simp only [Value.slice.injEq] at h1
 obtain ⟨rfl, _, rfl⟩ := h1
 exact h3 j e hj
end Go.Proofs.YtpdboaedoimahaaGreatDoor
end
section
set_option linter.unusedSectionVars false
set_option linter.unusedVariables false
namespace Go.Proofs.YtpdboaedoimahaaGreatDoor
open Go.RowKit
theorem refSame0 {u : PH} {v v' : Value} {ts ts' : List (List UInt8)} (h : StrsP u v ts) (h' : StrsP u v' ts') (hl : ts.length ≤ 1000000) (hl' : ts'.length ≤ 1000000) :
  Fn0 Tryz.prog 22 [v, v'] u fun r _ => r = .bool (decide (ts = ts')) := by
 obtain ⟨a, c, rfl⟩ := ListP.opn h
 obtain ⟨a', c', rfl⟩ := ListP.opn h'
 rw [strsV_length] at h h' ⊢
 rw [strsV_length]
 refine Fn0.of Tryz.func22 (by kernel_rfl) (by kernel_rfl) ?_
 by_cases hn : ts.length = ts'.length
 ·refine G.neqF (ts.length : Int) (ts'.length : Int) (by kernel_rfl) (by omega) ?_
  refine G.loop (ι := Nat) (fun i => [(0, .v (.slice a ts.length c)), (1, .v (.slice a' ts'.length c')), (12, .v (.int .i64 (ts.length : Int))), (13, .v (.int .i64 (i : Int)))]) (fun _ => [])
   (fun i u' m' => (i ≤ ts.length ∧ ts.take i = ts'.take i) ∧ m' = PH.mt) (fun i => ts.length - i) 0 (by kernel_rfl) (fun _ => by kernel_rfl) ⟨by kernel_rfl, by kernel_rfl, by kernel_rfl⟩ ⟨⟨by omega, by simp⟩, rfl⟩ ?_
  rintro J k hJ u' m' hle ⟨⟨hk, heq⟩, rfl⟩
  by_cases hlt : k < ts.length
  ·refine G.lssT (k : Int) (ts.length : Int) (by kernel_rfl) (by omega) ?_
   have hlt' : k < ts'.length := by omega
   have htk : ts[k]? = some ts[k] := List.getElem?_eq_getElem hlt
   have htk' : ts'[k]? = some ts'[k] := List.getElem?_eq_getElem hlt'
   obtain ⟨ba, oa, rfl, ea⟩ := ListP.at' (ListP.mono h hle) (j := k) (e := .string (mkS ts[k])) (by simp [strsV, htk])
   obtain ⟨bb, ob, rfl, eb⟩ := ListP.at' (ListP.mono h' hle) (j := k) (e := .string (mkS ts'[k])) (by simp [strsV, htk'])
   refine G.addr ba oa ts.length c k 1 (by kernel_rfl) (by omega) ?_
   refine G.loadU none ba (oa + k * 1) (.string (mkS ts[k])) (by kernel_rfl) (by kernel_rfl) ea ?_
   refine G.addr bb ob ts'.length c' k 1 (by kernel_rfl) (by omega) ?_
   refine G.loadU none bb (ob + k * 1) (.string (mkS ts'[k])) (by kernel_rfl) (by kernel_rfl) eb ?_
   by_cases he : ts[k] = ts'[k]
   ·refine G.neSF ts[k] ts'[k] (by kernel_rfl) he ?_
    refine G.add (k : Int) 1 ((k + 1 : Nat) : Int) (by kernel_rfl) (by omega) (by omega) (by omega) ?_
    exact G.back (by kernel_rfl) (hJ (k + 1) _ _ _ ⟨by kernel_rfl, by kernel_rfl, by kernel_rfl⟩ hle ⟨⟨by omega, by rw [List.take_add_one, List.take_add_one, heq, htk, htk', he]⟩, rfl⟩ (by omega))
   ·refine G.neST ts[k] ts'[k] (by kernel_rfl) he ?_
    exact G.ret (.bool false) (by kernel_rfl) ⟨rfl, by rw [decide_eq_false]; rintro rfl; exact he rfl⟩
  ·refine G.lssF (k : Int) (ts.length : Int) (by kernel_rfl) (by omega) ?_
   have : ts = ts' := by rw [List.take_of_length_le (by omega), List.take_of_length_le (by omega)] at heq; exact heq
   exact G.ret (.bool true) (by kernel_rfl) ⟨rfl, by simp [this]⟩
 ·refine G.neqT (ts.length : Int) (ts'.length : Int) (by kernel_rfl) (by omega) ?_
  exact G.ret (.bool false) (by kernel_rfl) ⟨rfl, by rw [decide_eq_false]; rintro rfl; exact hn rfl⟩
end Go.Proofs.YtpdboaedoimahaaGreatDoor
end
section
set_option linter.unusedSectionVars false
set_option linter.unusedSimpArgs false
set_option linter.unusedVariables false
namespace Go.Proofs.YtpdboaedoimahaaGreatDoor
open Go.RowKit
section rules
variable [Flag] {P : Program} [Mixed P] {fn : Func} {Post : Spec} {st : List KI × S} {u m : PH}
theorem Good.heap {w w' : World} (h : Good u m w) (e : ∀ g : Nat, w'.heap[g]? = w.heap[g]?) : Good u m w' :=
 ⟨fun g o hg => by rw [e]; exact h.pu g o hg, fun g o hg => by rw [e]; exact h.pm g o hg, h.ap, fun g cs t fr j z hg hj => h.cl g cs t fr j z (by rw [← e]; exact hg) hj⟩
theorem G.convSB (d : Option TypeDesc) (e : TypeId) (l : List UInt8) (h : stopV P (adv P st) = .conv d (some (.slice e)) (.string (mkS l))) (hd : d.isSome = true) (he : P.underlying e = some (.int .u8))
  (k : ∀ v u', PH.le u u' → ListP u' v 1 (bytesV l) → G P fn Post (nx (adv P st) v) u' m) : G P fn Post st u m := by
 refine G.big (K := fun v' u' m' => m' = m ∧ ListP u' v' 1 (bytesV l)) h (by simp) (fun env op hv => ?_) (.inl fun v u' m' hk => by rw [hk.1]; exact PH.le_refl _) (fun env o hview w hgd => ?_) (fun v' u' m' hle hk => ?_)
 ·obtain ⟨s, d', X, rfl, _⟩ := view_conv hv; rfl
 ·obtain ⟨s, d', X, e1, e2, e3, e4⟩ := view_conv hview
  obtain ⟨dst, opp, type, pos, after, guard⟩ := o
  simp only at e1; subst e1
  obtain ⟨dd, rfl⟩ := Option.isSome_iff_exists.1 hd
  have hr := Lib.run_convert_string_bytes (P := P) w s d' e (mkS l) e3 e4 he
  have hsz : (mkS l).size = l.length := Go.Lib.size_mk l
  obtain ⟨g1, g2, g3, g4⟩ := hgd.newU (.cells (Lib.bytesCells w e (mkS l)) e ((Lib.bytesCells w e (mkS l)).size, (Lib.bytesCells w e (mkS l)).size + 1))
  have hh : ∀ g : Nat, (Lib.bytesWorld w e (mkS l)).heap[g]? = (w.alloc (.cells (Lib.bytesCells w e (mkS l)) e ((Lib.bytesCells w e (mkS l)).size, (Lib.bytesCells w e (mkS l)).size + 1))).heap[g]? := by
   intro g
   rcases Nat.lt_trichotomy g w.heap.size with h1 | h1 | h1
   ·rw [Lib.bytesWorld_at_old w e _ g h1, heap_alloc_lt _ _ h1]
   ·subst h1; rw [Lib.bytesWorld_at_new, heap_alloc_eq]
   ·rw [Array.getElem?_eq_none (by rw [Lib.bytesWorld_size]; omega), Array.getElem?_eq_none (by rw [size_alloc']; omega)]
  refine does_value (by simp [execOp, e2, hr]; rfl) ⟨_, m, g1.heap hh, ⟨by rw [Lib.bytesWorld_size]; omega, fun g hg hm => Lib.bytesWorld_at_old w e _ g hg, g2.us, g2.ms, ⟨rfl, rfl⟩, fun _ => ⟨rfl, by first | exact Nat.le_refl _ | exact Nat.le_succ _⟩⟩, rfl, ?_⟩
  refine ⟨some ⟨w.heap.size, 0, none⟩, grownCap w l.length 0 e, by rw [bytesV_length, hsz], by rw [bytesV_length]; exact grownCap_ge w _ _ e, fun j x hj => ⟨_, 0, rfl, fun i y hy => ⟨_, _, _, upd_same _ _ _, ?_⟩⟩⟩
  have hjl : j < l.length := by
   rcases Nat.lt_or_ge j l.length with h' | h'
   ·exact h'
   ·rw [List.getElem?_eq_none (by rw [bytesV_length]; exact h')] at hj; cases hj
  rw [bytesV_get hjl] at hj
  simp only [Option.some.injEq] at hj
  subst hj
  have : i = 0 ∧ y = .int .u8 ((l.getD j 0).toNat : Int) := by
   match i, hy with
   | 0, hy => simp [Value.cells] at hy; simp [hy]
  obtain ⟨rfl, rfl⟩ := this
  simp [Lib.bytesCells, Array.getElem?_append, hjl, List.getD]
 ·obtain ⟨rfl, hk⟩ := hk
  exact k v' u' hle hk
end rules
theorem trimPrefix0 {u : PH} {s p : List UInt8} : Fn0 Tryz.prog 176 [.string (mkS s), .string (mkS p)] u fun v _ => v = .string (mkS (Lib.trimPrefix s p)) :=
 Fn0.ofW (fun v _ => v = .string (mkS (Lib.trimPrefix s p))) (fun w _ => (Tryz.strings_TrimPrefix (mkS s) (mkS p) w).mono fun _ _ ⟨e, h⟩ => ⟨_, e, rfl, by rw [h]; exact Ext.refl _⟩) (fun _ _ _ h _ _ _ => h)
theorem intValid0 {u : PH} {z : Int} (h : Lib.nDigits z.natAbs ≤ 400) : Fn0 Tryz.prog 125 [.string (mkS (Lib.itoa z))] u fun v _ => v = .bool true := by
 refine Fn0.of Tryz.func125 (by kernel_rfl) (by kernel_rfl) ?_
 by_cases h0 : z = 0
 ·subst h0
  refine G.eqST (Lib.itoa 0) [48] (by kernel_rfl) itoa_zero ?_
  exact G.ret (.bool true) (by kernel_rfl) ⟨rfl, rfl⟩
 refine G.eqSF (Lib.itoa z) [48] (by kernel_rfl) (fun e => h0 (itoa_inj (e.trans itoa_zero.symm))) ?_
 refine G.call0 _ _ (by kernel_rfl) Tryz.call176 (trimPrefix0 (s := Lib.itoa z) (p := [45])) ?_
 rintro v1 u1 l1 rfl
 have hdl := Lib.decDigits_length z.natAbs
 have hdp := Lib.nDigits_pos z.natAbs
 have hdd := dec_dig z.natAbs
 obtain ⟨b0, hb0, hb1, hb2⟩ := itoa_first (z := (z.natAbs : Int)) (by omega) (by omega)
 rw [itoa_nat] at hb0
 rw [itoa_signed z, (trimPrefix_signed hdd (dec_ne_nil _)).1]
 generalize hL : Lib.decDigits z.natAbs = L at *
 have hsize : (mkS L).size = L.length := Go.Lib.size_mk _
 refine G.eqSF L [] (by kernel_rfl) (by intro e; rw [e] at hdl; simp at hdl; omega) ?_
 refine G.gtrF (L.length : Int) 400 (by kernel_rfl) (by omega) ?_
 refine G.idxS L 0 b0 (by kernel_rfl) hb0 ?_
 refine G.cmpG .eql .u8 (b0.toNat : Int) 48 false (by kernel_rfl) rfl (by simp only [cmpZ, decide_eq_false_iff_not]; omega) ?_
 refine G.convSB (some .string) 5 L (by kernel_rfl) rfl (by kernel_rfl) ?_
 intro v2 u2 l2 k2
 obtain ⟨a, c, rfl⟩ := ListP.opn k2
 rw [bytesV_length] at k2 ⊢
 refine G.loop (ι := Nat) (fun i => [(23, .v (.slice a L.length c)), (24, .v (.int .i64 (L.length : Int))), (25, .v (.int .i64 (i : Int)))]) (fun _ => []) (fun i _ m' => i ≤ L.length ∧ m' = PH.mt) (fun i => L.length - i) 0 (by kernel_rfl) (fun _ => by kernel_rfl) ⟨by kernel_rfl, by kernel_rfl, by kernel_rfl⟩ ⟨by omega, rfl⟩ ?_
 rintro J i hJ u' m' hle ⟨hi, rfl⟩
 by_cases hlt : i < L.length
 ·refine G.lssT (i : Int) (L.length : Int) (by kernel_rfl) (by omega) ?_
  have hg := getD_dig hdd hlt
  obtain ⟨ba, oa, rfl, ea⟩ := ListP.at' (ListP.mono k2 hle) (j := i) (bytesV_get hlt)
  refine G.addr ba oa L.length c i 1 (by kernel_rfl) (by omega) ?_
  refine G.loadU none ba (oa + i * 1) (.int .u8 ((L.getD i 0).toNat : Int)) (by kernel_rfl) (by kernel_rfl) ea ?_
  refine G.cmpG .lss .u8 ((L.getD i 0).toNat : Int) 48 false (by kernel_rfl) rfl (by simp only [cmpZ, decide_eq_false_iff_not]; omega) ?_
  refine G.cmpG .gtr .u8 ((L.getD i 0).toNat : Int) 57 false (by kernel_rfl) rfl (by simp only [cmpZ, decide_eq_false_iff_not]; omega) ?_
  refine G.add (i : Int) 1 ((i + 1 : Nat) : Int) (by kernel_rfl) (by omega) (by omega) (by omega) ?_
  exact G.back (by kernel_rfl) (hJ (i + 1) _ _ _ ⟨by kernel_rfl, by kernel_rfl, by kernel_rfl⟩ hle ⟨by omega, rfl⟩ (by omega))
 ·refine G.lssF (i : Int) (L.length : Int) (by kernel_rfl) (by omega) ?_
  exact G.ret (.bool true) (by kernel_rfl) ⟨rfl, rfl⟩
end Go.Proofs.YtpdboaedoimahaaGreatDoor
end
section
set_option linter.unusedSectionVars false
set_option linter.unusedVariables false
namespace Go.Proofs.YtpdboaedoimahaaGreatDoor
open Go.RowKit
theorem intRead0 {u : PH} {z : Int} (h : Lib.nDigits z.natAbs ≤ 400) : Fn0 Tryz.prog 177 [.string (mkS (Lib.itoa z))] u fun v u' => NumP u' v z := by
 refine Fn0.of Tryz.func177 (by kernel_rfl) (by kernel_rfl) ?_
 refine G.call0 _ _ (by kernel_rfl) Tryz.call127 (numRead0 h) ?_
 intro v2 u2 l2 k2
 obtain ⟨b2, a2, n2, c2, rfl⟩ := k2.opn
 exact G.ret (.agg #[.bool b2, .slice a2 n2 c2]) (by kernel_rfl) ⟨rfl, k2⟩
theorem intCompare0 {u : PH} {y z : Int} (h : Lib.nDigits y.natAbs ≤ 400) (h' : Lib.nDigits z.natAbs ≤ 400) : Fn0 Tryz.prog 126 [.string (mkS (Lib.itoa y)), .string (mkS (Lib.itoa z))] u fun v _ => v = .int .i64 (sgn (y - z)) := by
 refine Fn0.of Tryz.func126 (by kernel_rfl) (by kernel_rfl) ?_
 refine G.call0 _ _ (by kernel_rfl) Tryz.call125 (intValid0 h) ?_
 rintro v1 u1 l1 rfl
 refine G.call0 _ _ (by kernel_rfl) Tryz.call125 (intValid0 h') ?_
 rintro v2 u2 l2 rfl
 refine G.call0 _ _ (by kernel_rfl) Tryz.call177 (intRead0 h) ?_
 intro v3 u3 l3 k3
 obtain ⟨b3, a3, n3, c3, rfl⟩ := k3.opn
 refine G.call0 _ _ (by kernel_rfl) Tryz.call177 (intRead0 h') ?_
 intro v4 u4 l4 k4
 obtain ⟨b4, a4, n4, c4, rfl⟩ := k4.opn
 refine G.call0 _ _ (by kernel_rfl) Tryz.call129 (numCompare0 (k3.mono l4) k4 (Nat.le_trans (nl_of_dig h) (by omega)) (Nat.le_trans (nl_of_dig h') (by omega))) ?_
 rintro v5 u5 l5 rfl
 exact G.ret _ (by kernel_rfl) ⟨rfl, rfl⟩
theorem ratValid0 {u : PH} {q : Rat} (h : Tx q) : Fn0 Tryz.prog 66 [.string (mkS (ratT q))] u fun v _ => v = .bool true := by
 refine Fn0.of Tryz.func66 (by kernel_rfl) (by kernel_rfl) ?_
 refine G.call0 _ _ (by kernel_rfl) Tryz.call124 (cutT h) ?_
 rintro v1 u1 l1 rfl
 refine G.call0 _ _ (by kernel_rfl) Tryz.call125 (intValid0 h.1) ?_
 rintro v2 u2 l2 rfl
 by_cases hd : q.den = 1
 ·rw [if_pos hd, decide_eq_false (by simp [hd])]
  refine G.call0 _ _ (by kernel_rfl) Tryz.call125 (intValid0 h.1) ?_
  rintro v3 u3 l3 rfl
  exact G.ret (.bool true) (by kernel_rfl) ⟨rfl, rfl⟩
 ·rw [if_neg hd, decide_eq_true hd]
  have hn := num_ne hd
  have hdn := q.den_nz
  refine G.eqSF (Lib.itoa q.num) [48] (by kernel_rfl) (fun e => hn (itoa_inj (e.trans itoa_zero.symm))) ?_
  refine G.call0 _ _ (by kernel_rfl) Tryz.call125 (intValid0 h.den) ?_
  rintro v3 u3 l3 rfl
  have hc := intCompare0 (u := u3) (y := (q.den : Int)) (z := 1) h.den (by rw [Lib.nDigits_small (by decide)]; omega)
  rw [itoa_one] at hc
  refine G.call0 _ _ (by kernel_rfl) Tryz.call126 hc ?_
  rintro v4 u4 l4 rfl
  refine G.leqF (sgn ((q.den : Int) - 1)) 0 (by kernel_rfl) (by rw [sgn_pos (by omega)]; omega) ?_
  refine G.call0 _ _ (by kernel_rfl) Tryz.call127 (numRead0 h.1) ?_
  intro v5 u5 l5 k5
  obtain ⟨b5, a5, n5, c5, rfl⟩ := k5.opn
  refine G.call0 _ _ (by kernel_rfl) Tryz.call127 (numRead0 h.den) ?_
  intro v6 u6 l6 k6
  obtain ⟨b6, a6, n6, c6, rfl⟩ := k6.opn
  refine G.call0 _ _ (by kernel_rfl) Tryz.call128 (numGcd0 (k5.mono l6) k6 (Nat.le_trans (nl_of_dig h.1) (by omega)) (Nat.le_trans (nl_of_dig h.den) (by omega))) ?_
  intro v7 u7 l7 k7
  rw [show Nat.gcd q.num.natAbs ((q.den : Int)).natAbs = 1 from q.reduced] at k7
  obtain ⟨b7, a7, n7, c7, rfl⟩ := k7.opn
  refine G.call0 _ _ (by kernel_rfl) Tryz.call130 (numOf0 (z := 1) (by omega) (by omega)) ?_
  intro v8 u8 l8 k8
  obtain ⟨b8, a8, n8, c8, rfl⟩ := k8.opn
  refine G.call0 _ _ (by kernel_rfl) Tryz.call129 (numCompare0 (k7.mono l8) k8 (Nat.le_trans nl_one (by omega)) (Nat.le_trans nl_one (by omega))) ?_
  rintro v9 u9 l9 rfl
  refine G.eqlT (sgn (((1 : Nat) : Int) - 1)) 0 (by kernel_rfl) (by decide) ?_
  exact G.ret (.bool true) (by kernel_rfl) ⟨rfl, rfl⟩
end Go.Proofs.YtpdboaedoimahaaGreatDoor
end
section
set_option linter.unusedSectionVars false
set_option linter.unusedVariables false
namespace Go.Proofs.YtpdboaedoimahaaGreatDoor
open Go.RowKit
end Go.Proofs.YtpdboaedoimahaaGreatDoor
end
