/- Joined out of parts of one proof by a program: contracts of the functions that the statement reaches, and the plain facts behind them. -/
import Derived.Test.YtldokelpolbnnaaGreatDoorJE02
import Derived.Deep.LoopGhost
import Derived.Deep.RegionHeld3
import Derived.Outline
set_option linter.unusedVariables false
set_option linter.unusedSimpArgs false
set_option linter.unusedSectionVars false
section
namespace Go.Proofs.YtldokelpolbnnaaGreatDoor
open Go.RowKit
theorem small_val {n : Nat} (h : nl n ≤ 2) : n = (limbs n).getD 1 0 * 1000000000 + (limbs n).getD 0 0 := by
 have h1 := val_two (limbs n) 0
 rw [List.take_of_length_le (show (limbs n).length ≤ 0 + 2 from h), val_limbs] at h1
 simp only [List.take_zero, val, Nat.pow_zero, Nat.one_mul, Nat.zero_add] at h1
 omega
set_option maxRecDepth 100000 in
set_option maxHeartbeats 400000 in
theorem natSmall_any (va : Value) (n : Nat) (w : World) (ha : NatV w va n) (h : nl n ≤ 2) :
  Calls Tryz.prog 160 #[va] w fun e w' => e = .returned (.int .u64 (n : Int)) ∧ w = w' := by
 have hs := small_val h
 obtain ⟨a, c, rfl, _, hr⟩ := ha
 have hx := at_any a c (limbs n) 1 w (by unfold nl at h; omega) (by omega) hr
 have hy := at_any a c (limbs n) 0 w (by unfold nl at h; omega) (by omega) hr
 rw [show (1 : Int).toNat = 1 by rfl] at hx
 rw [show (0 : Int).toNat = 0 by rfl] at hy
 have b1 := (low_limbs n).getD 1
 have b0 := (low_limbs n).getD 0
 obtain ⟨x, ex⟩ : ∃ x, x = (limbs n).getD 1 0 := ⟨_, rfl⟩
 obtain ⟨y, ey⟩ : ∃ y, y = (limbs n).getD 0 0 := ⟨_, rfl⟩
 rw [← ex] at hx b1 hs
 rw [← ey] at hy b0 hs
 have HX := Lib.hid hx
 have HY := Lib.hid hy
 have HS := Lib.hid hs
 clear hx hy hs ex ey hr
 go_enter Tryz.func160, Tryz.ntmps160
 go_wp2_with fail
 refine HX.out.mono ?_
 rintro e w' ⟨rfl, rfl⟩
 go_wp2_with fail
 refine HY.out.mono ?_
 rintro e w' ⟨rfl, rfl⟩
 go_wp2_with fail
 go_ret
 exact ⟨ret_int (by have := HS.out; omega), rfl⟩
def GcdRel (w : World) (G S : Nat) (gk : Nat) (a b : Value) (wr : World) : Prop :=
 ∃ m n : Nat, NatV wr a m ∧ NatV wr b n ∧ Nat.gcd m n = G ∧ nl m ≤ S ∧ nl n ≤ S ∧ n = gk ∧ Ext w wr
def GcdRel2 (w : World) (G : Nat) (x y : Value) (wr : World) : Prop :=
 ∃ m n : Nat, x = .int .u64 (m : Int) ∧ y = .int .u64 (n : Int) ∧ m < 1000000000000000000 ∧ n < 1000000000000000000 ∧ Nat.gcd m n = G ∧ ∃ q, wr = w.drewN q
theorem lt_of_nl2 {n : Nat} (h : nl n ≤ 2) : n < 1000000000000000000 := by
 have h1 := lt_pow_nl n
 have h2 : 1000000000 ^ nl n ≤ 1000000000 ^ 2 := Nat.pow_le_pow_right (by omega) h
 rw [show (1000000000 : Nat) ^ 2 = 1000000000000000000 by rfl] at h2
 omega
theorem gcd_step (m n : Nat) : Nat.gcd n (m % n) = Nat.gcd m n := by rw [Nat.gcd_comm m n, Nat.gcd_rec n m, Nat.gcd_comm]
theorem row_two (w1 : World) (r s : Nat) : Row (w1.alloc (Obj.cells #[Value.int IntKind.u64 (r : Int), Value.int IntKind.u64 (s : Int)] 162)) (some ⟨w1.heap.size, 0, none⟩) (u64s [r, s]) := by
 intro j hj
 have : j < 2 := by simpa [u64s] using hj
 match j, this with
 | 0, _ => exact ⟨_, _, rfl, by simp [u64s]⟩
 | 1, _ => exact ⟨_, _, rfl, by simp [u64s]⟩
set_option maxRecDepth 100000 in
set_option maxHeartbeats 1600000 in
theorem natGcd_any (va vb : Value) (m n : Nat) (w : World) (ha : NatV w va m) (hb : NatV w vb n) (sa : nl m ≤ 5000000000000) (sb : nl n ≤ 5000000000000) :
  Calls Tryz.prog 131 #[va, vb] w (RetNat w (Nat.gcd m n)) := by
 have HA := Lib.hid ha
 have HB := Lib.hid hb
 clear ha hb
 go_enter Tryz.func131, Tryz.ntmps131
 go_wp2_with fail
 go_loopg [0, 1] n (GcdRel w (Nat.gcd m n) 5000000000000)
 case atStart => exact ⟨m, n, HA.out, HB.out, rfl, sa, sb, rfl, Ext.refl w⟩
 case round =>
  obtain ⟨m', n', hm, hn, hg, s1, s2, rfl, hx⟩ := hrel
  have HM := Lib.hid hm
  have HN := Lib.hid hn
  have HG := Lib.hid hg
  have HX := Lib.hid hx
  obtain ⟨a, ca, rfl, _, ra⟩ := hm
  obtain ⟨b, cb, rfl, _, rb⟩ := hn
  have l1 : (limbs m').length ≤ 5000000000000 := s1
  have l2 : (limbs n').length ≤ 5000000000000 := s2
  clear hg hx ra rb
  by_cases h2 : 2 < (limbs n').length
  ·have hn0 : 0 < n' := by
    rcases Nat.eq_zero_or_pos n' with h0 | h0
    ·rw [h0, limbs_zero] at h2; simp at h2
    ·exact h0
   have hdiv := Lib.hid (natDivide_any _ _ m' n' wr HM.out HN.out s1 s2 hn0)
   go_wp2_with fail
   refine hdiv.out.mono ?_
   rintro e w1 ⟨u, v, rfl, hu, hv, hx1⟩
   have HV := Lib.hid hv
   have HX1 := Lib.hid hx1
   clear hu hv hx1
   go_wp2_with fail
   have hlt := Nat.mod_lt m' hn0
   go_roundg (m' % n')
   case measure => exact hlt
   case rel => exact ⟨n', m' % n', HN.out.ext HX1.out, HV.out, by rw [gcd_step]; exact HG.out, s2, Nat.le_trans (nl_mono (Nat.le_of_lt hlt)) s2, rfl, HX.out.trans HX1.out⟩
  ·by_cases h0 : n' = 0
   ·have hl0 : (limbs n').length = 0 := by rw [h0, limbs_zero]; rfl
    rw [hl0]
    have hg0 : m' = Nat.gcd m n := by rw [← HG.out, h0, Nat.gcd_zero_right]
    have HG0 := Lib.hid hg0
    clear hg0 hl0 h2 h0
    go_wp2_with fail
    go_ret
    exact ⟨_, rfl, by rw [← HG0.out]; exact HM.out, HX.out⟩
   ·have hn0 : 0 < n' := by omega
    have hl0 : 0 < (limbs n').length := List.length_pos_iff.2 (fun e => h0 (limbs_eq_nil.1 e))
    have hl1 : (((limbs n').length : Int) == 0) = false := beq_eq_false_iff_ne.2 (by omega)
    have hn1 : nl n' ≤ 2 := by unfold nl; omega
    by_cases h3 : 2 < (limbs m').length
    case' neg =>
     have hm1 : nl m' ≤ 2 := by unfold nl; omega
     have hb1 := lt_of_nl2 hm1
     have hb2 := lt_of_nl2 hn1
     obtain ⟨x, hx⟩ : ∃ x, x = m' := ⟨_, rfl⟩
     obtain ⟨y, hy⟩ : ∃ y, y = n' := ⟨_, rfl⟩
     have HG2 : Hid (Nat.gcd x y = Nat.gcd m n) := by rw [hx, hy]; exact HG.out
     have hs1 : Hid (Calls Tryz.prog 160 #[.slice a (limbs m').length ca] wr fun e w' => e = .returned (.int .u64 (x : Int)) ∧ wr = w') := by rw [hx]; exact natSmall_any _ m' wr HM.out hm1
     have hs2 : Hid (Calls Tryz.prog 160 #[.slice b (limbs n').length cb] wr fun e w' => e = .returned (.int .u64 (y : Int)) ∧ wr = w') := by rw [hy]; exact natSmall_any _ n' wr HN.out hn1
     rw [← hx] at hb1
     rw [← hy] at hb2
     obtain ⟨W1, rfl⟩ : ∃ W1 : World, W1 = wr := ⟨_, rfl⟩
     have XX : Hid (Ext w W1) := HX.out
     clear hx hy hm1 hn1
     go_wp2_with fail
     refine hs1.out.mono ?_
     rintro e w' ⟨rfl, rfl⟩
     go_wp2_with fail
     refine hs2.out.mono ?_
     rintro e w' ⟨rfl, rfl⟩
     go_wp2_with fail
    case' pos =>
     have hdiv := Lib.hid (natDivide_any _ _ m' n' wr HM.out HN.out s1 s2 hn0)
     go_wp2_with fail
     refine hdiv.out.mono ?_
     rintro e W1 ⟨u, v, rfl, hu, hv, hx1⟩
     have HV := Lib.hid hv
     have HX1 := Lib.hid hx1
     have hlt := Nat.mod_lt m' hn0
     have hb1 := lt_of_nl2 hn1
     have hb2 : m' % n' < 1000000000000000000 := by omega
     obtain ⟨x, hx⟩ : ∃ x, x = n' := ⟨_, rfl⟩
     obtain ⟨y, hy⟩ : ∃ y, y = m' % n' := ⟨_, rfl⟩
     have HG2 : Hid (Nat.gcd x y = Nat.gcd m n) := by rw [hx, hy, gcd_step]; exact HG.out
     have hs1 : Hid (Calls Tryz.prog 160 #[.slice b (limbs n').length cb] W1 fun e w' => e = .returned (.int .u64 (x : Int)) ∧ W1 = w') := by rw [hx]; exact natSmall_any _ n' W1 (HN.out.ext HX1.out) hn1
     have hs2 : Hid (Calls Tryz.prog 160 #[v] W1 fun e w' => e = .returned (.int .u64 (y : Int)) ∧ W1 = w') := by rw [hy]; exact natSmall_any _ (m' % n') W1 HV.out (Nat.le_trans (nl_mono (Nat.le_of_lt hlt)) hn1)
     rw [← hx] at hb1
     rw [← hy] at hb2
     have XX : Hid (Ext w W1) := HX.out.trans HX1.out
     clear hx hy hu hv hx1 hlt hn1
     go_wp2_with fail
     refine hs1.out.mono ?_
     rintro e w' ⟨rfl, rfl⟩
     go_wp2_with fail
     refine hs2.out.mono ?_
     rintro e w' ⟨rfl, rfl⟩
     go_wp2_with fail
    all_goals
     go_loopw [9, 10] (GcdRel2 W1 (Nat.gcd m n)) (fun _ y _ => (intOf y).toNat)
     case atStart => exact ⟨x, y, rfl, rfl, hb1, hb2, HG2.out, 0, rfl⟩
     case round =>
      obtain ⟨p, q, rfl, rfl, hp, hq, hgg, d, rfl⟩ := hrel
      have HGG := Lib.hid hgg
      clear hgg
      by_cases hq0 : q = 0
      ·subst hq0
       have hpg : p = Nat.gcd m n := by rw [← HGG.out, Nat.gcd_zero_right]
       have HPG := Lib.hid hpg
       clear hpg
       go_wp2_with fail
       rw [show (p : Int) % 1000000000 = ((p % 1000000000 : Nat) : Int) by omega, show (p : Int) / 1000000000 = ((p / 1000000000 : Nat) : Int) by omega]
       have hrow := row_two (W1.drewN d) (p % 1000000000) (p / 1000000000)
       refine (trim_len _ _ _ [p % 1000000000, p / 1000000000] _ rfl (by simp) (by simp) hrow).mono ?_
       rintro e w' ⟨rfl, rfl⟩
       have hnat := nat_of_trim (cap := 2) (Low.cons (by omega) (Low.cons (by omega) Low.nil)) hrow (n := p) (by simp [val]; omega) (by simp)
       have HNAT := Lib.hid hnat
       clear hnat hrow
       go_wp2_with fail
       go_ret
       refine ⟨_, rfl, ?_, (XX.out.drewN d).alloc _⟩
       rw [← HPG.out]; exact HNAT.out
      ·have hq1 : ((q : Int) != 0) = true := by rw [bne_iff_ne]; omega
       have hq2 : ((q : Int) == 0) = false := beq_eq_false_iff_ne.2 (by omega)
       go_wp2_with fail
       go_quiet (fail)
       go_wp2_with fail
       have hlt := Nat.mod_lt p (show 0 < q by omega)
       rw [show (p : Int) % q = ((p % q : Nat) : Int) by simp, World.drewN_drewN]
       exact ⟨⟨q, p % q, rfl, rfl, hq, by omega, by rw [gcd_step]; exact HGG.out, _, rfl⟩, by simp only [intOf]; omega⟩
end Go.Proofs.YtldokelpolbnnaaGreatDoor
end
section
namespace Go.Proofs.YtldokelpolbnnaaGreatDoor
open Go.RowKit
def NumV (w : World) (v : Value) (z : Int) : Prop := ∃ a n c, v = .agg #[.bool (decide (z < 0)), .slice a n c] ∧ NatV w (.slice a n c) z.natAbs
theorem NumV.ext {w w' : World} {v : Value} {z : Int} (h : NumV w v z) (x : Ext w w') : NumV w' v z := by
 obtain ⟨a, n, c, h1, h2⟩ := h; exact ⟨a, n, c, h1, h2.ext x⟩
def RetNum (w : World) (z : Int) (e : Ending) (w' : World) : Prop := ∃ v, e = .returned v ∧ NumV w' v z ∧ Ext w w'
def sgnd (neg : Bool) (n : Nat) : Int := if neg then -(n : Int) else n
theorem sgnd_natAbs (neg : Bool) (n : Nat) : (sgnd neg n).natAbs = n := by unfold sgnd; split <;> omega
theorem sgnd_neg (neg : Bool) (n : Nat) : decide (sgnd neg n < 0) = (neg && decide (0 < n)) := by
 unfold sgnd; cases neg <;> simp <;> omega
theorem sgnd_self (z : Int) : sgnd (decide (z < 0)) z.natAbs = z := by
 unfold sgnd; by_cases h : z < 0 <;> simp [h] <;> omega
theorem num_of {w : World} {s : Value} {n : Nat} {b neg : Bool} (hb : b = (neg && decide (0 < n))) (hs : NatV w s n) : NumV w (.agg #[.bool b, s]) (sgnd neg n) := by
 obtain ⟨a, c, rfl, h2⟩ := id hs
 exact ⟨a, _, c, by rw [sgnd_neg, hb], by rw [sgnd_natAbs]; exact hs⟩
theorem num_of' {w : World} {s : Value} {z : Int} {b : Bool} (hb : b = decide (z < 0)) (hs : NatV w s z.natAbs) : NumV w (.agg #[.bool b, s]) z := by
 obtain ⟨a, c, rfl, h2⟩ := id hs
 exact ⟨a, _, c, by rw [hb], hs⟩
theorem len_pos {n : Nat} : 0 < (limbs n).length ↔ 0 < n := by
 constructor
 ·intro h; rcases Nat.eq_zero_or_pos n with h0 | h0
  ·rw [h0, limbs_zero] at h; simp at h
  ·exact h0
 ·intro h; exact List.length_pos_iff.2 (fun e => by have := limbs_eq_nil.1 e; omega)
theorem grown_setCell (w : World) (a : Addr) (v : Value) : w.grownBy (w.setCell a v) (some a.block) :=
 ⟨rfl, rfl, rfl, by simp [World.setCell], fun k _ hk => Below.heap_setCell _ _ _ _ (fun e => hk (by rw [e]))⟩
def NoInts (w : World) (g : Nat) : Prop := ∃ (cs : Array Value) (t : TypeId) (fr : Nat × Nat), w.heap[g]? = some (.cells cs t fr) ∧ ∀ (j : Nat) (k : IntKind) (z : Int), cs[j]? ≠ some (Value.int k z)
theorem NatV.grown {w w' : World} {s : Value} {n g : Nat} (h : NatV w s n) (hg : NoInts w g) (hw : w.grownBy w' (some g)) : NatV w' s n := by
 obtain ⟨a, c, h1, h2, h3⟩ := h
 refine ⟨a, c, h1, h2, fun j hj => ?_⟩
 obtain ⟨b, off, e1, e2⟩ := h3 j hj
 refine ⟨b, off, e1, hw.cell e2 ?_⟩
 simp only [ne_eq, Option.some.injEq]
 intro e
 obtain ⟨cs, t, fr, hb, hno⟩ := hg
 rw [← e] at hb
 rw [cell_of_row _ _ _ _ _ _ hb] at e2
 have hj' : j < (limbs n).length := by simpa using hj
 refine hno _ .u64 ((limbs n).getD j 0 : Nat) (e2.trans ?_)
 simp [u64s, hj']
theorem blk2_set {w : World} {g : Nat} {t : TypeId} {o0 o1 v0 v1 : Value} (h : w.heap[g]? = some (.cells #[o0, o1] t (0, 0))) :
  ((w.setCell ⟨g, 0, none⟩ v0).setCell ⟨g, 1, none⟩ v1).heap[g]? = some (.cells #[v0, v1] t (0, 0)) := by
 rw [heap_setCell_same _ _ _ _ _ _ (heap_setCell_same _ _ _ _ _ _ h)]; rfl
theorem grown2 (w : World) (g : Nat) (v0 v1 : Value) : w.grownBy ((w.setCell ⟨g, 0, none⟩ v0).setCell ⟨g, 1, none⟩ v1) (some g) :=
 grown_trans (grown_setCell _ _ _) (grown_setCell _ _ _)
theorem ext2 {a w : World} {g : Nat} (h : Ext a w) (hg : a.heap.size ≤ g) (v0 v1 : Value) : Ext a ((w.setCell ⟨g, 0, none⟩ v0).setCell ⟨g, 1, none⟩ v1) :=
 (h.setCell (p := ⟨g, 0, none⟩) hg v0).setCell (p := ⟨g, 1, none⟩) hg v1
theorem noInts2 {w : World} {g : Nat} {t : TypeId} {b : Bool} {a : Option Addr} {n c : Nat} (h : w.heap[g]? = some (.cells #[.bool b, .slice a n c] t (0, 0))) : NoInts w g := by
 refine ⟨_, _, _, h, fun j k z e => ?_⟩
 match j with
 | 0 => simp at e
 | 1 => simp at e
 | j + 2 => simp at e
theorem Tryz.size88 : (Tryz.prog.info? 88).map (·.size) = some 2 := by kernel_rfl
theorem ret_num {fn : Func} {p : Tmp} {R : Ending → World → Prop} {a : Act} {w : World} {g : Nat} {v0 v1 : Value} (h : fn.results = #[.cell p 88])
  (hp : a.tmps.getD p undef = .pointer (some ⟨g, 0, none⟩)) (hg : w.heap[g]? = some (.cells #[v0, v1] 88 (0, 0))) (hd : a.defers = []) (hR : R (.returned (.agg #[v0, v1])) w) :
  bodyPost Tryz.prog fn R .ret a w :=
 ⟨hd, _, results_cell_row h a.tmps w g _ _ _ _ hp hg Tryz.underlying88 rfl Tryz.size88, hR⟩
set_option maxRecDepth 100000 in
set_option maxHeartbeats 400000 in
theorem number_any (neg : Bool) (s : Value) (n : Nat) (w : World) (h : NatV w s n) (hn : nl n ≤ 100000000000000) :
  Calls Tryz.prog 129 #[.bool neg, s] w (RetNum w (sgnd neg n)) := by
 have H := Lib.hid h
 obtain ⟨a, c, rfl, _, _⟩ := h
 have hl : (limbs n).length ≤ 100000000000000 := hn
 by_cases hp : 0 < (limbs n).length
 ·have hd : decide (0 < ((limbs n).length : Int)) = true := by simp; omega
  have hp' := len_pos.1 hp
  cases neg
  ·go_enter Tryz.func129, Tryz.ntmps129
   go_wp2_with fail
   refine bodyPost_ret (v := .agg #[.bool false, .slice a (limbs n).length c]) (by simp [results, Tryz.results129, go_sem]) rfl ⟨_, rfl, num_of rfl (H.out.ext ((Ext.refl w).alloc _)), (Ext.refl w).alloc _⟩
  ·go_enter Tryz.func129, Tryz.ntmps129
   go_wp2_with fail
   refine bodyPost_ret (v := .agg #[.bool true, .slice a (limbs n).length c]) (by simp [results, Tryz.results129, go_sem]) rfl ⟨_, rfl, num_of (by simp [hp']) (H.out.ext ((Ext.refl w).alloc _)), (Ext.refl w).alloc _⟩
 ·have hd : decide (0 < ((limbs n).length : Int)) = false := by simp only [decide_eq_false_iff_not]; omega
  have hp' : ¬ 0 < n := fun h => hp (len_pos.2 h)
  cases neg
  ·go_enter Tryz.func129, Tryz.ntmps129
   go_wp2_with fail
   refine bodyPost_ret (v := .agg #[.bool false, .slice a (limbs n).length c]) (by simp [results, Tryz.results129, go_sem]) rfl ⟨_, rfl, num_of rfl (H.out.ext ((Ext.refl w).alloc _)), (Ext.refl w).alloc _⟩
  ·go_enter Tryz.func129, Tryz.ntmps129
   go_wp2_with fail
   refine bodyPost_ret (v := .agg #[.bool false, .slice a (limbs n).length c]) (by simp [results, Tryz.results129, go_sem]) rfl ⟨_, rfl, num_of (by simp [hp']) (H.out.ext ((Ext.refl w).alloc _)), (Ext.refl w).alloc _⟩
set_option maxRecDepth 100000 in
set_option maxHeartbeats 400000 in
theorem numSign_any (v : Value) (z : Int) (w : World) (h : NumV w v z) (hn : nl z.natAbs ≤ 100000000000000) :
  Calls Tryz.prog 133 #[v] w fun e w' => e = .returned (.int .i64 (sgn z)) ∧ Ext w w' := by
 obtain ⟨a, n, c, rfl, hnat⟩ := h
 obtain ⟨a', c', e1, _, _⟩ := hnat
 simp only [Value.slice.injEq] at e1
 obtain ⟨rfl, rfl, rfl⟩ := e1
 have hl : (limbs z.natAbs).length ≤ 100000000000000 := hn
 rcases Int.lt_trichotomy z 0 with h | h | h
 ·rw [sgn_neg h]
  have hd : decide (z < 0) = true := by simp [h]
  rw [hd]
  clear hd
  go_enter Tryz.func133, Tryz.ntmps133
  go_wp2_with fail
  go_ret
  exact ⟨rfl, (Ext.refl w).alloc _⟩
 ·subst h
  rw [show (limbs (Int.natAbs 0)).length = 0 by simp [limbs_zero]]
  rw [sgn_zero, show decide ((0 : Int) < 0) = false by rfl]
  go_enter Tryz.func133, Tryz.ntmps133
  go_wp2_with fail
  go_ret
  exact ⟨rfl, (Ext.refl w).alloc _⟩
 ·rw [sgn_pos h]
  have hd : decide (z < 0) = false := by simp; omega
  rw [hd]
  clear hd
  have hp : 0 < (limbs z.natAbs).length := len_pos.2 (by omega)
  go_enter Tryz.func133, Tryz.ntmps133
  go_wp2_with fail
  go_ret
  exact ⟨rfl, (Ext.refl w).alloc _⟩
set_option maxRecDepth 100000 in
set_option maxHeartbeats 400000 in
theorem numNeg_any (v : Value) (z : Int) (w : World) (h : NumV w v z) (hn : nl z.natAbs ≤ 100000000000000) :
  Calls Tryz.prog 109 #[v] w (RetNum w (-z)) := by
 obtain ⟨a, n, c, rfl, hs⟩ := h
 have hnum := number_any (!decide (z < 0)) (.slice a n c) z.natAbs ((w.alloc (.cells #[.bool (decide (z < 0)), .slice a n c] 88)).alloc (.cells #[.bool false, .slice none 0 0] 88)) (hs.ext (((Ext.refl w).alloc _).alloc _)) hn
 have HN := Lib.hid hnum
 clear hnum
 go_enter Tryz.func109, Tryz.ntmps109
 go_wp2_with fail
 refine HN.out.mono ?_
 rintro e w1 ⟨v1, rfl, ⟨a1, n1, c1, rfl, hs1⟩, hx1⟩
 have HS1 := Lib.hid hs1
 have HX1 := Lib.hid hx1
 have hblk : w1.heap[w.heap.size + 1]? = some (.cells #[.bool false, .slice none 0 0] 88 (0, 0)) := by
  have := Below.block hx1 (w.heap.size + 1) (by simp)
  rw [this]; exact heap_alloc2_new _ _ _
 have hc0 : w1.cell? ⟨w.heap.size + 1, 0, none⟩ = some (.bool false) := by rw [cell_of_row _ _ _ _ _ _ hblk]; rfl
 have hc1 : w1.cell? ⟨w.heap.size + 1, 1, none⟩ = some (.slice none 0 0) := by rw [cell_of_row _ _ _ _ _ _ hblk]; rfl
 have hf0 := frozen_of_row _ _ 0 _ _ hblk
 have hf1 := frozen_of_row _ _ 1 _ _ hblk
 clear hs1 hx1
 have HBL := Lib.hid hblk
 clear hblk
 go_wp2_with fail
 refine ret_num rfl rfl (blk2_set HBL.out) rfl ⟨_, rfl, ?_, ext2 ((((Ext.refl w).alloc _).alloc _).trans HX1.out) (by omega) _ _⟩
 have hz : sgnd (!decide (z < 0)) z.natAbs = -z := by
  unfold sgnd; by_cases h : z < 0 <;> simp [h] <;> omega
 have := HS1.out
 rw [hz] at this ⊢
 exact num_of' rfl (this.grown (noInts2 HBL.out) (grown2 _ _ _ _))
end Go.Proofs.YtldokelpolbnnaaGreatDoor
end
section
namespace Go.Proofs.YtldokelpolbnnaaGreatDoor
open Go.RowKit
theorem box3 (w : World) (A B C : Obj) : Ext w (((w.alloc A).alloc B).alloc C) ∧ (((w.alloc A).alloc B).alloc C).heap[w.heap.size]? = some A ∧
  (((w.alloc A).alloc B).alloc C).heap[w.heap.size + 1]? = some B ∧ (((w.alloc A).alloc B).alloc C).heap[w.heap.size + 1 + 1]? = some C := by
 refine ⟨(((Ext.refl w).alloc _).alloc _).alloc _, ?_, ?_, ?_⟩
 ·rw [heap_alloc_old _ _ (by simp; omega)]; exact heap_alloc2_old _ _ _
 ·rw [heap_alloc_old _ _ (by simp)]; exact heap_alloc2_new _ _ _
 ·have := heap_alloc_new ((w.alloc A).alloc B) C
  simpa using this
theorem Ext.block {w w' : World} (h : Ext w w') {g : Nat} {o : Obj} (hg : w.heap[g]? = some o) : w'.heap[g]? = some o := by
 rw [Below.block h g (lt_of_block hg)]; exact hg
theorem keep2 {w : World} {g b o : Nat} {v0 v1 x : Value} (h : w.cell? ⟨b, o, none⟩ = some x) (hne : b ≠ g) : ((w.setCell ⟨g, 0, none⟩ v0).setCell ⟨g, 1, none⟩ v1).cell? ⟨b, o, none⟩ = some x :=
 (grown2 w g v0 v1).cell h (by simp; exact hne)
theorem cell2_0 {w : World} {g : Nat} {x y : Value} {t : TypeId} (h : w.heap[g]? = some (.cells #[x, y] t (0, 0))) : w.cell? ⟨g, 0, none⟩ = some x := by rw [cell_of_row _ _ _ _ _ _ h]; rfl
theorem cell2_1 {w : World} {g : Nat} {x y : Value} {t : TypeId} (h : w.heap[g]? = some (.cells #[x, y] t (0, 0))) : w.cell? ⟨g, 1, none⟩ = some y := by rw [cell_of_row _ _ _ _ _ _ h]; rfl
theorem sgnd_mul (y z : Int) : sgnd (!(decide (y < 0) == decide (z < 0))) (y.natAbs * z.natAbs) = y * z := by
 unfold sgnd
 have e : ((y.natAbs * z.natAbs : Nat) : Int) = (y.natAbs : Int) * z.natAbs := Int.natCast_mul _ _
 rw [e]
 by_cases hy : y < 0 <;> by_cases hz : z < 0 <;> simp [hy, hz]
 ·rw [show (y.natAbs : Int) = -y by omega, show (z.natAbs : Int) = -z by omega, Int.neg_mul_neg]
 ·rw [show (y.natAbs : Int) = -y by omega, show (z.natAbs : Int) = z by omega, Int.neg_mul, Int.neg_neg]
 ·rw [show (y.natAbs : Int) = y by omega, show (z.natAbs : Int) = -z by omega, Int.mul_neg, Int.neg_neg]
 ·rw [show (y.natAbs : Int) = y by omega, show (z.natAbs : Int) = z by omega]
theorem sgnd_add {y z : Int} (hs : decide (y < 0) = decide (z < 0)) : sgnd (decide (y < 0)) (y.natAbs + z.natAbs) = y + z := by
 unfold sgnd
 by_cases hy : y < 0 <;> by_cases hz : z < 0 <;> simp [hy, hz] at hs ⊢ <;> omega
theorem sgnd_sub1 {y z : Int} (hs : decide (y < 0) ≠ decide (z < 0)) (h : z.natAbs ≤ y.natAbs) : sgnd (decide (y < 0)) (y.natAbs - z.natAbs) = y + z := by
 unfold sgnd
 by_cases hy : y < 0 <;> by_cases hz : z < 0 <;> simp [hy, hz] at hs ⊢ <;> omega
theorem sgnd_sub2 {y z : Int} (hs : decide (y < 0) ≠ decide (z < 0)) (h : y.natAbs < z.natAbs) : sgnd (decide (z < 0)) (z.natAbs - y.natAbs) = y + z := by
 unfold sgnd
 by_cases hy : y < 0 <;> by_cases hz : z < 0 <;> simp [hy, hz] at hs ⊢ <;> omega
set_option maxRecDepth 100000 in
set_option maxHeartbeats 1600000 in
theorem numMul_any (u v : Value) (y z : Int) (w : World) (hu : NumV w u y) (hv : NumV w v z) (sy : nl y.natAbs ≤ 5000000000000) (sz : nl z.natAbs ≤ 5000000000000) :
  Calls Tryz.prog 108 #[u, v] w (RetNum w (y * z)) := by
 obtain ⟨a, n, c, rfl, hy⟩ := hu
 obtain ⟨a', n', c', rfl, hz⟩ := hv
 have HY := Lib.hid hy
 have HZ := Lib.hid hz
 clear hy hz
 obtain ⟨p, hp⟩ : ∃ p, p = decide (y < 0) := ⟨_, rfl⟩
 obtain ⟨q, hq⟩ : ∃ q, q = decide (z < 0) := ⟨_, rfl⟩
 rw [← hp, ← hq]
 have HP := Lib.hid hp
 have HQ := Lib.hid hq
 have HEQ : Hid (sgnd (!(p == q)) (y.natAbs * z.natAbs) = y * z) := by rw [hp, hq]; exact sgnd_mul y z
 have HSZ : Hid (nl (y.natAbs * z.natAbs) ≤ 100000000000000) := by have := nl_mul y.natAbs z.natAbs; unfold Hid; omega
 clear hp hq
 go_enter Tryz.func108, Tryz.ntmps108
 go_wp2_with fail
 have hb := box3 w (.cells #[.bool p, .slice a n c] 88) (.cells #[.bool q, .slice a' n' c'] 88) (.cells #[.bool false, .slice none 0 0] 88)
 generalize ((w.alloc (.cells #[.bool p, .slice a n c] 88)).alloc (.cells #[.bool q, .slice a' n' c'] 88)).alloc (.cells #[.bool false, .slice none 0 0] 88) = W at *
 obtain ⟨x0, b0, b1, b2⟩ := hb
 have X0 := Lib.hid x0
 have B2 := Lib.hid b2
 have c0 := cell2_0 b0
 have c1 := cell2_1 b0
 have c2 := cell2_0 b1
 have c3 := cell2_1 b1
 clear x0 b0 b1 b2
 have HM := Lib.hid (fun (W' : World) (x : Ext W W') => natMul_any _ _ _ _ W' (HY.out.ext (X0.out.trans x)) (HZ.out.ext (X0.out.trans x)) (by omega) (by omega))
 go_region_held3 (fun w' => w'.cell? ⟨w.heap.size, 0, none⟩ = some (.bool p) ∧ w'.cell? ⟨w.heap.size, 1, none⟩ = some (.slice a n c) ∧ w'.cell? ⟨w.heap.size + 1, 0, none⟩ = some (.bool q) ∧ w'.cell? ⟨w.heap.size + 1, 1, none⟩ = some (.slice a' n' c')) (first | exact ⟨keep2 k1_0 (by omega), keep2 k1_1 (by omega), keep2 k1_2 (by omega), keep2 k1_3 (by omega)⟩ | go_keep)
  (first
   | (go_at_call 147; refine (HM.out _ (Ext.refl _).drew).mono ?_; rintro e w1 ⟨v1, rfl, hv1, hx0⟩; have k0_0 := hx0.cell (p := ⟨w.heap.size, 0, none⟩) c0; have k0_1 := hx0.cell (p := ⟨w.heap.size, 1, none⟩) c1; have k0_2 := hx0.cell (p := ⟨w.heap.size + 1, 0, none⟩) c2; have k0_3 := hx0.cell (p := ⟨w.heap.size + 1, 1, none⟩) c3; have HV1 := Lib.hid hv1; have HX1 := Lib.hid hx0; have O2 := Lib.hid (HX1.out.block (g := w.heap.size + 1 + 1) B2.out); clear hv1; clear hx0)
   | (go_at_call 129; refine (number_any _ _ _ _ HV1.out HSZ.out).mono ?_; rintro e w2 ⟨v2, rfl, ⟨a2, n2, c2', rfl, hs2⟩, hx1⟩; have k1_0 := hx1.cell (p := ⟨w.heap.size, 0, none⟩) k0_0; have k1_1 := hx1.cell (p := ⟨w.heap.size, 1, none⟩) k0_1; have k1_2 := hx1.cell (p := ⟨w.heap.size + 1, 0, none⟩) k0_2; have k1_3 := hx1.cell (p := ⟨w.heap.size + 1, 1, none⟩) k0_3; have HS2 := Lib.hid hs2; have HX2 := Lib.hid hx1; have BB := Lib.hid (HX2.out.block O2.out); have d0 := cell2_0 BB.out; have d1 := cell2_1 BB.out; have f0 := frozen_of_row _ _ 0 _ _ BB.out; have f1 := frozen_of_row _ _ 1 _ _ BB.out; clear hs2; clear hx1 k0_0 k0_1 k0_2 k0_3))
 go_wp2_with fail
 refine ret_num rfl rfl (blk2_set BB.out) rfl ⟨_, rfl, ?_, ext2 ((X0.out.trans ((Ext.refl _).drew.trans HX1.out)).trans HX2.out) (by omega) _ _⟩
 have hs := HS2.out.grown (noInts2 BB.out) (grown2 _ _ (.bool (decide (sgnd (!(p == q)) (y.natAbs * z.natAbs) < 0))) (.slice a2 n2 c2'))
 rw [show sgnd (!(p == q)) (y.natAbs * z.natAbs) = y * z from HEQ.out] at hs ⊢
 exact num_of' rfl hs
set_option maxRecDepth 100000 in
set_option maxHeartbeats 1600000 in
theorem numAdd_same (u v : Value) (y z : Int) (w : World) (hu : NumV w u y) (hv : NumV w v z) (sy : nl y.natAbs ≤ 5000000000000) (sz : nl z.natAbs ≤ 5000000000000) (hs : decide (y < 0) = decide (z < 0)) :
  Calls Tryz.prog 106 #[u, v] w (RetNum w (y + z)) := by
 obtain ⟨a, n, c, rfl, hy⟩ := hu
 obtain ⟨a', n', c', rfl, hz⟩ := hv
 have HY := Lib.hid hy
 have HZ := Lib.hid hz
 clear hy hz
 obtain ⟨p, hp⟩ : ∃ p, p = decide (y < 0) := ⟨_, rfl⟩
 obtain ⟨q, hq⟩ : ∃ q, q = decide (z < 0) := ⟨_, rfl⟩
 rw [← hp, ← hq]
 have HP := Lib.hid hp
 have HQ := Lib.hid hq
 have HEQ : Hid (sgnd p (y.natAbs + z.natAbs) = y + z) := by rw [hp]; exact sgnd_add hs
 have HSZ : Hid (nl (y.natAbs + z.natAbs) ≤ 100000000000000) := by have := nl_add y.natAbs z.natAbs; unfold Hid; omega
 have hpq : (p == q) = true := by rw [hp, hq, hs]; simp
 clear hp hq
 go_enter Tryz.func106, Tryz.ntmps106
 go_wp2_with fail
 have hb := box3 w (.cells #[.bool p, .slice a n c] 88) (.cells #[.bool q, .slice a' n' c'] 88) (.cells #[.bool false, .slice none 0 0] 88)
 generalize ((w.alloc (.cells #[.bool p, .slice a n c] 88)).alloc (.cells #[.bool q, .slice a' n' c'] 88)).alloc (.cells #[.bool false, .slice none 0 0] 88) = W at *
 obtain ⟨x0, b0, b1, b2⟩ := hb
 have X0 := Lib.hid x0
 have B2 := Lib.hid b2
 have c0 := cell2_0 b0
 have c1 := cell2_1 b0
 have c2 := cell2_0 b1
 have c3 := cell2_1 b1
 clear x0 b0 b1 b2
 have HM := Lib.hid (fun (W' : World) (x : Ext W W') => natAdd_any _ _ _ _ W' (HY.out.ext (X0.out.trans x)) (HZ.out.ext (X0.out.trans x)) (by omega) (by omega))
 go_region_held3 (fun w' => w'.cell? ⟨w.heap.size, 0, none⟩ = some (.bool p) ∧ w'.cell? ⟨w.heap.size, 1, none⟩ = some (.slice a n c) ∧ w'.cell? ⟨w.heap.size + 1, 0, none⟩ = some (.bool q) ∧ w'.cell? ⟨w.heap.size + 1, 1, none⟩ = some (.slice a' n' c')) (first | exact ⟨keep2 k1_0 (by omega), keep2 k1_1 (by omega), keep2 k1_2 (by omega), keep2 k1_3 (by omega)⟩ | go_keep)
  (first
   | (go_at_call 144; refine (HM.out _ (Ext.refl _).drew).mono ?_; rintro e w1 ⟨v1, rfl, hv1, hx0⟩; have k0_0 := hx0.cell (p := ⟨w.heap.size, 0, none⟩) c0; have k0_1 := hx0.cell (p := ⟨w.heap.size, 1, none⟩) c1; have k0_2 := hx0.cell (p := ⟨w.heap.size + 1, 0, none⟩) c2; have k0_3 := hx0.cell (p := ⟨w.heap.size + 1, 1, none⟩) c3; have HV1 := Lib.hid hv1; have HX1 := Lib.hid hx0; have O2 := Lib.hid (HX1.out.block (g := w.heap.size + 1 + 1) B2.out); clear hv1; clear hx0)
   | (go_at_call 129; refine (number_any _ _ _ _ HV1.out HSZ.out).mono ?_; rintro e w2 ⟨v2, rfl, ⟨a2, n2, c2', rfl, hs2⟩, hx1⟩; have k1_0 := hx1.cell (p := ⟨w.heap.size, 0, none⟩) k0_0; have k1_1 := hx1.cell (p := ⟨w.heap.size, 1, none⟩) k0_1; have k1_2 := hx1.cell (p := ⟨w.heap.size + 1, 0, none⟩) k0_2; have k1_3 := hx1.cell (p := ⟨w.heap.size + 1, 1, none⟩) k0_3; have HS2 := Lib.hid hs2; have HX2 := Lib.hid hx1; have BB := Lib.hid (HX2.out.block O2.out); have d0 := cell2_0 BB.out; have d1 := cell2_1 BB.out; have f0 := frozen_of_row _ _ 0 _ _ BB.out; have f1 := frozen_of_row _ _ 1 _ _ BB.out; clear hs2; clear hx1 k0_0 k0_1 k0_2 k0_3))
 go_wp2_with fail
 refine ret_num rfl rfl (blk2_set BB.out) rfl ⟨_, rfl, ?_, ext2 ((X0.out.trans ((Ext.refl _).drew.trans HX1.out)).trans HX2.out) (by omega) _ _⟩
 have hs := HS2.out.grown (noInts2 BB.out) (grown2 _ _ (.bool (decide (sgnd p (y.natAbs + z.natAbs) < 0))) (.slice a2 n2 c2'))
 rw [show sgnd p (y.natAbs + z.natAbs) = y + z from HEQ.out] at hs ⊢
 exact num_of' rfl hs
set_option maxRecDepth 100000 in
set_option maxHeartbeats 1600000 in
theorem numAdd_ge (u v : Value) (y z : Int) (w : World) (hu : NumV w u y) (hv : NumV w v z) (sy : nl y.natAbs ≤ 5000000000000) (sz : nl z.natAbs ≤ 5000000000000) (hs : decide (y < 0) ≠ decide (z < 0)) (hle : z.natAbs ≤ y.natAbs) :
  Calls Tryz.prog 106 #[u, v] w (RetNum w (y + z)) := by
 obtain ⟨a, n, c, rfl, hy⟩ := hu
 obtain ⟨a', n', c', rfl, hz⟩ := hv
 have HY := Lib.hid hy
 have HZ := Lib.hid hz
 clear hy hz
 obtain ⟨p, hp⟩ : ∃ p, p = decide (y < 0) := ⟨_, rfl⟩
 obtain ⟨q, hq⟩ : ∃ q, q = decide (z < 0) := ⟨_, rfl⟩
 rw [← hp, ← hq]
 have HP := Lib.hid hp
 have HQ := Lib.hid hq
 have HEQ : Hid (sgnd p (y.natAbs - z.natAbs) = y + z) := by rw [hp]; exact sgnd_sub1 hs hle
 have HSZ : Hid (nl (y.natAbs - z.natAbs) ≤ 100000000000000) := by have := nl_mono (Nat.sub_le y.natAbs z.natAbs); unfold Hid; omega
 have hpq : (p == q) = false := by rw [hp, hq]; simpa using hs
 have hcmp : Hid (0 ≤ sgn ((y.natAbs : Int) - z.natAbs)) := by unfold Hid; exact cmp_ge hle
 clear hp hq
 go_enter Tryz.func106, Tryz.ntmps106
 go_wp2_with fail
 have hb := box3 w (.cells #[.bool p, .slice a n c] 88) (.cells #[.bool q, .slice a' n' c'] 88) (.cells #[.bool false, .slice none 0 0] 88)
 generalize ((w.alloc (.cells #[.bool p, .slice a n c] 88)).alloc (.cells #[.bool q, .slice a' n' c'] 88)).alloc (.cells #[.bool false, .slice none 0 0] 88) = W0 at *
 refine (natCompare_any _ _ y.natAbs z.natAbs W0 (HY.out.ext hb.1) (HZ.out.ext hb.1) (by omega) (by omega)).mono ?_
 rintro e W ⟨rfl, dd, hW⟩
 have hb0 : Ext W0 W := by rw [hW]; exact (Ext.refl W0).drewN dd
 obtain ⟨x0, b0, b1, b2⟩ := hb
 have X0 := Lib.hid (x0.trans hb0)
 have B2 := Lib.hid (hb0.block b2)
 have c0 := cell2_0 (hb0.block b0)
 have c1 := cell2_1 (hb0.block b0)
 have c2 := cell2_0 (hb0.block b1)
 have c3 := cell2_1 (hb0.block b1)
 obtain ⟨cmp, hcm⟩ : ∃ cmp, cmp = sgn ((y.natAbs : Int) - z.natAbs) := ⟨_, rfl⟩
 rw [← hcm]
 have hcmp2 := hcmp.out
 rw [← hcm] at hcmp2
 clear x0 b0 b1 b2 hW hb0 hcmp hcm
 go_wp2_with fail
 have HM := Lib.hid (fun (W' : World) (x : Ext W W') => natSub_any _ _ _ _ W' (HY.out.ext (X0.out.trans x)) (HZ.out.ext (X0.out.trans x)) (by omega) hle)
 go_region_held3 (fun w' => w'.cell? ⟨w.heap.size, 0, none⟩ = some (.bool p) ∧ w'.cell? ⟨w.heap.size, 1, none⟩ = some (.slice a n c) ∧ w'.cell? ⟨w.heap.size + 1, 0, none⟩ = some (.bool q) ∧ w'.cell? ⟨w.heap.size + 1, 1, none⟩ = some (.slice a' n' c')) (first | exact ⟨keep2 k1_0 (by omega), keep2 k1_1 (by omega), keep2 k1_2 (by omega), keep2 k1_3 (by omega)⟩ | go_keep)
  (first
   | (go_at_call 146; refine (HM.out _ (Ext.refl _).drew).mono ?_; rintro e w1 ⟨v1, rfl, hv1, hx0⟩; have k0_0 := hx0.cell (p := ⟨w.heap.size, 0, none⟩) c0; have k0_1 := hx0.cell (p := ⟨w.heap.size, 1, none⟩) c1; have k0_2 := hx0.cell (p := ⟨w.heap.size + 1, 0, none⟩) c2; have k0_3 := hx0.cell (p := ⟨w.heap.size + 1, 1, none⟩) c3; have HV1 := Lib.hid hv1; have HX1 := Lib.hid hx0; have O2 := Lib.hid (HX1.out.block (g := w.heap.size + 1 + 1) B2.out); clear hv1; clear hx0)
   | (go_at_call 129; refine (number_any _ _ _ _ HV1.out HSZ.out).mono ?_; rintro e w2 ⟨v2, rfl, ⟨a2, n2, c2', rfl, hs2⟩, hx1⟩; have k1_0 := hx1.cell (p := ⟨w.heap.size, 0, none⟩) k0_0; have k1_1 := hx1.cell (p := ⟨w.heap.size, 1, none⟩) k0_1; have k1_2 := hx1.cell (p := ⟨w.heap.size + 1, 0, none⟩) k0_2; have k1_3 := hx1.cell (p := ⟨w.heap.size + 1, 1, none⟩) k0_3; have HS2 := Lib.hid hs2; have HX2 := Lib.hid hx1; have BB := Lib.hid (HX2.out.block O2.out); have d0 := cell2_0 BB.out; have d1 := cell2_1 BB.out; have f0 := frozen_of_row _ _ 0 _ _ BB.out; have f1 := frozen_of_row _ _ 1 _ _ BB.out; clear hs2; clear hx1 k0_0 k0_1 k0_2 k0_3))
 go_wp2_with fail
 refine ret_num rfl rfl (blk2_set BB.out) rfl ⟨_, rfl, ?_, ext2 ((X0.out.trans ((Ext.refl _).drew.trans HX1.out)).trans HX2.out) (by omega) _ _⟩
 have hs := HS2.out.grown (noInts2 BB.out) (grown2 _ _ (.bool (decide (sgnd p (y.natAbs - z.natAbs) < 0))) (.slice a2 n2 c2'))
 rw [show sgnd p (y.natAbs - z.natAbs) = y + z from HEQ.out] at hs ⊢
 exact num_of' rfl hs
set_option maxRecDepth 100000 in
set_option maxHeartbeats 1600000 in
theorem numAdd_lt (u v : Value) (y z : Int) (w : World) (hu : NumV w u y) (hv : NumV w v z) (sy : nl y.natAbs ≤ 5000000000000) (sz : nl z.natAbs ≤ 5000000000000) (hs : decide (y < 0) ≠ decide (z < 0)) (hlt : y.natAbs < z.natAbs) :
  Calls Tryz.prog 106 #[u, v] w (RetNum w (y + z)) := by
 obtain ⟨a, n, c, rfl, hy⟩ := hu
 obtain ⟨a', n', c', rfl, hz⟩ := hv
 have HY := Lib.hid hy
 have HZ := Lib.hid hz
 clear hy hz
 obtain ⟨p, hp⟩ : ∃ p, p = decide (y < 0) := ⟨_, rfl⟩
 obtain ⟨q, hq⟩ : ∃ q, q = decide (z < 0) := ⟨_, rfl⟩
 rw [← hp, ← hq]
 have HP := Lib.hid hp
 have HQ := Lib.hid hq
 have HEQ : Hid (sgnd q (z.natAbs - y.natAbs) = y + z) := by rw [hq]; exact sgnd_sub2 hs hlt
 have HSZ : Hid (nl (z.natAbs - y.natAbs) ≤ 100000000000000) := by have := nl_mono (Nat.sub_le z.natAbs y.natAbs); unfold Hid; omega
 have hpq : (p == q) = false := by rw [hp, hq]; simpa using hs
 have hle : y.natAbs ≤ z.natAbs := by omega
 have hcmp : Hid (sgn ((y.natAbs : Int) - z.natAbs) < 0) := by unfold Hid; rw [sgn_neg (by omega)]; omega
 clear hp hq
 go_enter Tryz.func106, Tryz.ntmps106
 go_wp2_with fail
 have hb := box3 w (.cells #[.bool p, .slice a n c] 88) (.cells #[.bool q, .slice a' n' c'] 88) (.cells #[.bool false, .slice none 0 0] 88)
 generalize ((w.alloc (.cells #[.bool p, .slice a n c] 88)).alloc (.cells #[.bool q, .slice a' n' c'] 88)).alloc (.cells #[.bool false, .slice none 0 0] 88) = W0 at *
 refine (natCompare_any _ _ y.natAbs z.natAbs W0 (HY.out.ext hb.1) (HZ.out.ext hb.1) (by omega) (by omega)).mono ?_
 rintro e W ⟨rfl, dd, hW⟩
 have hb0 : Ext W0 W := by rw [hW]; exact (Ext.refl W0).drewN dd
 obtain ⟨x0, b0, b1, b2⟩ := hb
 have X0 := Lib.hid (x0.trans hb0)
 have B2 := Lib.hid (hb0.block b2)
 have c0 := cell2_0 (hb0.block b0)
 have c1 := cell2_1 (hb0.block b0)
 have c2 := cell2_0 (hb0.block b1)
 have c3 := cell2_1 (hb0.block b1)
 obtain ⟨cmp, hcm⟩ : ∃ cmp, cmp = sgn ((y.natAbs : Int) - z.natAbs) := ⟨_, rfl⟩
 rw [← hcm]
 have hcmp2 := hcmp.out
 rw [← hcm] at hcmp2
 clear x0 b0 b1 b2 hW hb0 hcmp hcm
 go_wp2_with fail
 have HM := Lib.hid (fun (W' : World) (x : Ext W W') => natSub_any _ _ _ _ W' (HZ.out.ext (X0.out.trans x)) (HY.out.ext (X0.out.trans x)) (by omega) hle)
 go_region_held3 (fun w' => w'.cell? ⟨w.heap.size, 0, none⟩ = some (.bool p) ∧ w'.cell? ⟨w.heap.size, 1, none⟩ = some (.slice a n c) ∧ w'.cell? ⟨w.heap.size + 1, 0, none⟩ = some (.bool q) ∧ w'.cell? ⟨w.heap.size + 1, 1, none⟩ = some (.slice a' n' c')) (first | exact ⟨keep2 k1_0 (by omega), keep2 k1_1 (by omega), keep2 k1_2 (by omega), keep2 k1_3 (by omega)⟩ | go_keep)
  (first
   | (go_at_call 146; refine (HM.out _ (Ext.refl _).drew).mono ?_; rintro e w1 ⟨v1, rfl, hv1, hx0⟩; have k0_0 := hx0.cell (p := ⟨w.heap.size, 0, none⟩) c0; have k0_1 := hx0.cell (p := ⟨w.heap.size, 1, none⟩) c1; have k0_2 := hx0.cell (p := ⟨w.heap.size + 1, 0, none⟩) c2; have k0_3 := hx0.cell (p := ⟨w.heap.size + 1, 1, none⟩) c3; have HV1 := Lib.hid hv1; have HX1 := Lib.hid hx0; have O2 := Lib.hid (HX1.out.block (g := w.heap.size + 1 + 1) B2.out); clear hv1; clear hx0)
   | (go_at_call 129; refine (number_any _ _ _ _ HV1.out HSZ.out).mono ?_; rintro e w2 ⟨v2, rfl, ⟨a2, n2, c2', rfl, hs2⟩, hx1⟩; have k1_0 := hx1.cell (p := ⟨w.heap.size, 0, none⟩) k0_0; have k1_1 := hx1.cell (p := ⟨w.heap.size, 1, none⟩) k0_1; have k1_2 := hx1.cell (p := ⟨w.heap.size + 1, 0, none⟩) k0_2; have k1_3 := hx1.cell (p := ⟨w.heap.size + 1, 1, none⟩) k0_3; have HS2 := Lib.hid hs2; have HX2 := Lib.hid hx1; have BB := Lib.hid (HX2.out.block O2.out); have d0 := cell2_0 BB.out; have d1 := cell2_1 BB.out; have f0 := frozen_of_row _ _ 0 _ _ BB.out; have f1 := frozen_of_row _ _ 1 _ _ BB.out; clear hs2; clear hx1 k0_0 k0_1 k0_2 k0_3))
 go_wp2_with fail
 refine ret_num rfl rfl (blk2_set BB.out) rfl ⟨_, rfl, ?_, ext2 ((X0.out.trans ((Ext.refl _).drew.trans HX1.out)).trans HX2.out) (by omega) _ _⟩
 have hs := HS2.out.grown (noInts2 BB.out) (grown2 _ _ (.bool (decide (sgnd q (z.natAbs - y.natAbs) < 0))) (.slice a2 n2 c2'))
 rw [show sgnd q (z.natAbs - y.natAbs) = y + z from HEQ.out] at hs ⊢
 exact num_of' rfl hs
theorem numAdd_any (u v : Value) (y z : Int) (w : World) (hu : NumV w u y) (hv : NumV w v z) (sy : nl y.natAbs ≤ 5000000000000) (sz : nl z.natAbs ≤ 5000000000000) :
  Calls Tryz.prog 106 #[u, v] w (RetNum w (y + z)) := by
 by_cases hs : decide (y < 0) = decide (z < 0)
 ·exact numAdd_same u v y z w hu hv sy sz hs
 ·rcases Nat.lt_or_ge y.natAbs z.natAbs with h | h
  ·exact numAdd_lt u v y z w hu hv sy sz hs h
  ·exact numAdd_ge u v y z w hu hv sy sz hs h
end Go.Proofs.YtldokelpolbnnaaGreatDoor
end
section
namespace Go.Proofs.YtldokelpolbnnaaGreatDoor
open Go.RowKit
set_option maxRecDepth 100000 in
set_option maxHeartbeats 1600000 in
theorem numSub_any (u v : Value) (y z : Int) (w : World) (hu : NumV w u y) (hv : NumV w v z) (sy : nl y.natAbs ≤ 5000000000000) (sz : nl z.natAbs ≤ 5000000000000) :
  Calls Tryz.prog 132 #[u, v] w (RetNum w (y - z)) := by
 have HU := Lib.hid hu
 have HV := Lib.hid hv
 obtain ⟨a, n, c, rfl, hy⟩ := hu
 obtain ⟨a', n', c', rfl, hz⟩ := hv
 clear hy hz
 obtain ⟨p, hp⟩ : ∃ p, p = decide (y < 0) := ⟨_, rfl⟩
 obtain ⟨q, hq⟩ : ∃ q, q = decide (z < 0) := ⟨_, rfl⟩
 rw [← hp, ← hq]
 rw [← hp] at HU
 rw [← hq] at HV
 clear hp hq
 go_enter Tryz.func132, Tryz.ntmps132
 go_wp2_with fail
 have hb := box3 w (.cells #[.bool p, .slice a n c] 88) (.cells #[.bool q, .slice a' n' c'] 88) (.cells #[.bool false, .slice none 0 0] 88)
 generalize ((w.alloc (.cells #[.bool p, .slice a n c] 88)).alloc (.cells #[.bool q, .slice a' n' c'] 88)).alloc (.cells #[.bool false, .slice none 0 0] 88) = W at *
 obtain ⟨x0, b0, b1, b2⟩ := hb
 have X0 := Lib.hid x0
 have B2 := Lib.hid b2
 have c0 := cell2_0 b0
 have c1 := cell2_1 b0
 have c2 := cell2_0 b1
 have c3 := cell2_1 b1
 clear x0 b0 b1 b2
 have HM := Lib.hid (fun (W' : World) (x : Ext W W') => numNeg_any _ z W' (HV.out.ext (X0.out.trans x)) (by omega))
 go_region_held3 (fun w' => w'.cell? ⟨w.heap.size, 0, none⟩ = some (.bool p) ∧ w'.cell? ⟨w.heap.size, 1, none⟩ = some (.slice a n c) ∧ w'.cell? ⟨w.heap.size + 1, 0, none⟩ = some (.bool q) ∧ w'.cell? ⟨w.heap.size + 1, 1, none⟩ = some (.slice a' n' c')) (first | exact ⟨keep2 k1_0 (by omega), keep2 k1_1 (by omega), keep2 k1_2 (by omega), keep2 k1_3 (by omega)⟩ | go_keep)
  (first
   | (go_at_call 109; refine (HM.out _ (Ext.refl _).drew).mono ?_; rintro e w1 ⟨v1, rfl, hv1, hx0⟩; have k0_0 := hx0.cell (p := ⟨w.heap.size, 0, none⟩) c0; have k0_1 := hx0.cell (p := ⟨w.heap.size, 1, none⟩) c1; have k0_2 := hx0.cell (p := ⟨w.heap.size + 1, 0, none⟩) c2; have k0_3 := hx0.cell (p := ⟨w.heap.size + 1, 1, none⟩) c3; have HV1 := Lib.hid hv1; have HX1 := Lib.hid hx0; have O2 := Lib.hid (HX1.out.block (g := w.heap.size + 1 + 1) B2.out); clear hv1; clear hx0)
   | (go_at_call 106; refine (numAdd_any _ _ y (-z) _ (HU.out.ext (X0.out.trans ((Ext.refl _).drew.trans HX1.out))) HV1.out sy (by rw [Int.natAbs_neg]; exact sz)).mono ?_; rintro e w2 ⟨v2, rfl, ⟨a2, n2, c2', rfl, hs2⟩, hx1⟩; have k1_0 := hx1.cell (p := ⟨w.heap.size, 0, none⟩) k0_0; have k1_1 := hx1.cell (p := ⟨w.heap.size, 1, none⟩) k0_1; have k1_2 := hx1.cell (p := ⟨w.heap.size + 1, 0, none⟩) k0_2; have k1_3 := hx1.cell (p := ⟨w.heap.size + 1, 1, none⟩) k0_3; have HS2 := Lib.hid hs2; have HX2 := Lib.hid hx1; have BB := Lib.hid (HX2.out.block O2.out); have d0 := cell2_0 BB.out; have d1 := cell2_1 BB.out; have f0 := frozen_of_row _ _ 0 _ _ BB.out; have f1 := frozen_of_row _ _ 1 _ _ BB.out; clear hs2; clear hx1 k0_0 k0_1 k0_2 k0_3))
 go_wp2_with fail
 refine ret_num rfl rfl (blk2_set BB.out) rfl ⟨_, rfl, num_of' rfl (HS2.out.grown (noInts2 BB.out) (grown2 _ _ _ _)), ext2 ((X0.out.trans ((Ext.refl _).drew.trans HX1.out)).trans HX2.out) (by omega) _ _⟩
set_option maxRecDepth 100000 in
set_option maxHeartbeats 1600000 in
theorem numCompare_any (u v : Value) (y z : Int) (w : World) (hu : NumV w u y) (hv : NumV w v z) (sy : nl y.natAbs ≤ 5000000000000) (sz : nl z.natAbs ≤ 5000000000000) :
  Calls Tryz.prog 86 #[u, v] w fun e w' => e = .returned (.int .i64 (sgn (y - z))) ∧ Ext w w' := by
 have HU := Lib.hid hu
 have HV := Lib.hid hv
 obtain ⟨a, n, c, rfl, hy⟩ := hu
 obtain ⟨a', n', c', rfl, hz⟩ := hv
 clear hy hz
 obtain ⟨p, hp⟩ : ∃ p, p = decide (y < 0) := ⟨_, rfl⟩
 obtain ⟨q, hq⟩ : ∃ q, q = decide (z < 0) := ⟨_, rfl⟩
 rw [← hp, ← hq]
 rw [← hp] at HU
 rw [← hq] at HV
 clear hp hq
 have HS : Hid (nl (y - z).natAbs ≤ 100000000000000) := by
  have h1 := nl_add y.natAbs z.natAbs
  have h2 : nl (y - z).natAbs ≤ nl (y.natAbs + z.natAbs) := nl_mono (by omega)
  unfold Hid; omega
 go_enter Tryz.func86, Tryz.ntmps86
 go_wp2_with fail
 have x0 : Ext w ((w.alloc (.cells #[.bool p, .slice a n c] 88)).alloc (.cells #[.bool q, .slice a' n' c'] 88)) := ((Ext.refl w).alloc _).alloc _
 have X0 := Lib.hid x0
 refine (numSub_any _ _ y z _ (HU.out.ext x0) (HV.out.ext x0) sy sz).mono ?_
 rintro e w1 ⟨v1, rfl, hv1, hx1⟩
 have HV1 := Lib.hid hv1
 have HX1 := Lib.hid hx1
 clear x0 hv1 hx1
 go_wp2_with fail
 refine (numSign_any _ _ _ HV1.out HS.out).mono ?_
 rintro e w2 ⟨rfl, hx2⟩
 have HX2 := Lib.hid hx2
 clear hx2
 go_wp2_with fail
 go_ret
 exact ⟨rfl, (X0.out.trans HX1.out).trans HX2.out⟩
set_option maxRecDepth 100000 in
set_option maxHeartbeats 1600000 in
theorem numGcd_any (u v : Value) (y z : Int) (w : World) (hu : NumV w u y) (hv : NumV w v z) (sy : nl y.natAbs ≤ 5000000000000) (sz : nl z.natAbs ≤ 5000000000000) :
  Calls Tryz.prog 85 #[u, v] w (RetNum w (Nat.gcd y.natAbs z.natAbs)) := by
 obtain ⟨a, n, c, rfl, hy⟩ := hu
 obtain ⟨a', n', c', rfl, hz⟩ := hv
 have HY := Lib.hid hy
 have HZ := Lib.hid hz
 clear hy hz
 obtain ⟨p, hp⟩ : ∃ p, p = decide (y < 0) := ⟨_, rfl⟩
 obtain ⟨q, hq⟩ : ∃ q, q = decide (z < 0) := ⟨_, rfl⟩
 rw [← hp, ← hq]
 clear hp hq
 have HSZ : Hid (nl (Nat.gcd y.natAbs z.natAbs) ≤ 100000000000000) := by
  unfold Hid
  rcases Nat.eq_zero_or_pos y.natAbs with h0 | h0
  ·rw [h0, Nat.gcd_zero_left]; omega
  ·have := nl_mono (Nat.gcd_le_left z.natAbs h0); omega
 go_enter Tryz.func85, Tryz.ntmps85
 go_wp2_with fail
 have hb := box3 w (.cells #[.bool p, .slice a n c] 88) (.cells #[.bool q, .slice a' n' c'] 88) (.cells #[.bool false, .slice none 0 0] 88)
 generalize ((w.alloc (.cells #[.bool p, .slice a n c] 88)).alloc (.cells #[.bool q, .slice a' n' c'] 88)).alloc (.cells #[.bool false, .slice none 0 0] 88) = W at *
 obtain ⟨x0, b0, b1, b2⟩ := hb
 have X0 := Lib.hid x0
 have B2 := Lib.hid b2
 have c0 := cell2_0 b0
 have c1 := cell2_1 b0
 have c2 := cell2_0 b1
 have c3 := cell2_1 b1
 clear x0 b0 b1 b2
 refine (natGcd_any _ _ _ _ W (HY.out.ext X0.out) (HZ.out.ext X0.out) (by omega) (by omega)).mono ?_
 rintro e w1 ⟨v1, rfl, hv1, hx1⟩
 have HV1 := Lib.hid hv1
 have HX1 := Lib.hid hx1
 have O2 := Lib.hid (hx1.block B2.out)
 clear hv1 hx1
 go_wp2_with fail
 refine (number_any _ _ _ _ HV1.out HSZ.out).mono ?_
 rintro e w2 ⟨v2, rfl, ⟨a2, n2, c2', rfl, hs2⟩, hx1⟩
 have HX2 := Lib.hid hx1
 have HS2 := Lib.hid hs2
 have BB := Lib.hid (HX2.out.block O2.out)
 have d0 := cell2_0 BB.out
 have d1 := cell2_1 BB.out
 have f0 := frozen_of_row _ _ 0 _ _ BB.out
 have f1 := frozen_of_row _ _ 1 _ _ BB.out
 clear hs2 hx1
 go_wp2_with fail
 refine ret_num rfl rfl (blk2_set BB.out) rfl ⟨_, rfl, ?_, ext2 ((X0.out.trans HX1.out).trans HX2.out) (by omega) _ _⟩
 exact num_of' rfl (HS2.out.grown (noInts2 BB.out) (grown2 _ _ _ _))
end Go.Proofs.YtldokelpolbnnaaGreatDoor
end
section
namespace Go.Proofs.YtldokelpolbnnaaGreatDoor
open Go.RowKit
def RetNum2 (w : World) (y z : Int) (e : Ending) (w' : World) : Prop := ∃ u v, e = .returned (.tuple #[u, v]) ∧ NumV w' u y ∧ NumV w' v z ∧ Ext w w'
theorem box4 (w : World) (A B C D : Obj) : Ext w ((((w.alloc A).alloc B).alloc C).alloc D) ∧ ((((w.alloc A).alloc B).alloc C).alloc D).heap[w.heap.size]? = some A ∧
  ((((w.alloc A).alloc B).alloc C).alloc D).heap[w.heap.size + 1]? = some B ∧ ((((w.alloc A).alloc B).alloc C).alloc D).heap[w.heap.size + 1 + 1]? = some C ∧
  ((((w.alloc A).alloc B).alloc C).alloc D).heap[w.heap.size + 1 + 1 + 1]? = some D := by
 obtain ⟨h1, h2, h3, h4⟩ := box3 w A B C
 have x : Ext (((w.alloc A).alloc B).alloc C) ((((w.alloc A).alloc B).alloc C).alloc D) := (Ext.refl _).alloc _
 refine ⟨h1.trans x, x.block h2, x.block h3, x.block h4, ?_⟩
 have := heap_alloc_new (((w.alloc A).alloc B).alloc C) D
 simpa using this
theorem ret_num2 {fn : Func} {p p' : Tmp} {R : Ending → World → Prop} {a : Act} {w : World} {g g' : Nat} {v0 v1 u0 u1 : Value} (h : fn.results = #[.cell p 88, .cell p' 88])
  (hp : a.tmps.getD p undef = .pointer (some ⟨g, 0, none⟩)) (hg : w.heap[g]? = some (.cells #[v0, v1] 88 (0, 0)))
  (hp' : a.tmps.getD p' undef = .pointer (some ⟨g', 0, none⟩)) (hg' : w.heap[g']? = some (.cells #[u0, u1] 88 (0, 0)))
  (hd : a.defers = []) (hR : R (.returned (.tuple #[.agg #[v0, v1], .agg #[u0, u1]])) w) :
  bodyPost Tryz.prog fn R .ret a w := by
 refine ⟨hd, _, ?_, hR⟩
 have e1 := run_loadVar_row (P := Tryz.prog) w g _ _ _ _ _ hg Tryz.underlying88 rfl Tryz.size88
 have e2 := run_loadVar_row (P := Tryz.prog) w g' _ _ _ _ _ hg' Tryz.underlying88 rfl Tryz.size88
 have q1 : a.tmps[p]?.getD undef = .pointer (some ⟨g, 0, none⟩) := by simpa using hp
 have q2 : a.tmps[p']?.getD undef = .pointer (some ⟨g', 0, none⟩) := by simpa using hp'
 simp [results, h, q1, q2, asAddr, e1, e2]
theorem blk4 {w : World} {g g' : Nat} {t : TypeId} {o0 o1 o2 o3 v0 v1 v2 v3 : Value} (h : w.heap[g]? = some (.cells #[o0, o1] t (0, 0))) (h' : w.heap[g']? = some (.cells #[o2, o3] t (0, 0))) (hne : g ≠ g') :
  ((((w.setCell ⟨g, 0, none⟩ v0).setCell ⟨g, 1, none⟩ v1).setCell ⟨g', 0, none⟩ v2).setCell ⟨g', 1, none⟩ v3).heap[g]? = some (.cells #[v0, v1] t (0, 0)) ∧
  ((((w.setCell ⟨g, 0, none⟩ v0).setCell ⟨g, 1, none⟩ v1).setCell ⟨g', 0, none⟩ v2).setCell ⟨g', 1, none⟩ v3).heap[g']? = some (.cells #[v2, v3] t (0, 0)) := by
 constructor
 ·rw [(grown2 _ g' v2 v3).block g (by have := lt_of_block h; simpa [World.setCell] using this) (by simp [hne])]
  exact blk2_set h
 ·refine blk2_set (o0 := o2) (o1 := o3) ?_
  rw [(grown2 w g v0 v1).block g' (lt_of_block h') (by simp; exact fun e => hne e.symm)]
  exact h'
theorem ediv_eq {y z q r : Int} (h : y = z * q + r) (h0 : 0 ≤ r) (h1 : r < z.natAbs) : y / z = q ∧ y % z = r := by
 have hz : z ≠ 0 := by intro e; subst e; simp at h1; omega
 have e1 : y % z = r := by
  rw [h, Int.add_comm, Int.add_mul_emod_self_left]
  rcases Int.lt_or_gt_of_ne hz with hn | hn
  ·rw [← Int.emod_neg]; exact Int.emod_eq_of_lt h0 (by omega)
  ·exact Int.emod_eq_of_lt h0 (by omega)
 refine ⟨?_, e1⟩
 have := Int.mul_ediv_add_emod y z
 rw [e1, h] at this
 have e2 : z * ((z * q + r) / z) = z * q := by omega
 rw [h]
 exact Int.eq_of_mul_eq_mul_left hz e2
theorem div_nonneg_eq {y z : Int} (hy : ¬ y < 0) (hz : z ≠ 0) : sgnd (!(decide (y < 0) == decide (z < 0))) (y.natAbs / z.natAbs) = y / z ∧ sgnd false (y.natAbs % z.natAbs) = y % z := by
 have hd := Nat.div_add_mod y.natAbs z.natAbs
 have hm := Nat.mod_lt y.natAbs (show 0 < z.natAbs by omega)
 generalize y.natAbs / z.natAbs = q at *
 generalize y.natAbs % z.natAbs = r at *
 have hd' : (z.natAbs : Int) * q + r = y.natAbs := by rw [← hd]; simp
 have := ediv_eq (y := y) (z := z) (q := sgnd (!(decide (y < 0) == decide (z < 0))) q) (r := (r : Int)) (by
  unfold sgnd
  by_cases h : z < 0
  ·rw [show (!(decide (y < 0) == decide (z < 0))) = true by simp [hy, h], if_pos rfl, Int.mul_neg]
   rw [show (z.natAbs : Int) = -z by omega, Int.neg_mul] at hd'
   omega
  ·rw [show (!(decide (y < 0) == decide (z < 0))) = false by simp [hy, h], if_neg (by simp)]
   rw [show (z.natAbs : Int) = z by omega] at hd'
   omega) (by omega) (by omega)
 exact ⟨this.1.symm, by rw [this.2]; rfl⟩
theorem div_neg_exact {y z : Int} (hy : y < 0) (hz : z ≠ 0) (hr : y.natAbs % z.natAbs = 0) : sgnd (!(decide (y < 0) == decide (z < 0))) (y.natAbs / z.natAbs) = y / z ∧ sgnd false (y.natAbs % z.natAbs) = y % z := by
 have hd := Nat.div_add_mod y.natAbs z.natAbs
 rw [hr] at hd ⊢
 generalize y.natAbs / z.natAbs = q at *
 have hd' : (z.natAbs : Int) * q = y.natAbs := by rw [← hd]; simp
 have := ediv_eq (y := y) (z := z) (q := sgnd (!(decide (y < 0) == decide (z < 0))) q) (r := 0) (by
  unfold sgnd
  by_cases h : z < 0
  ·rw [show (!(decide (y < 0) == decide (z < 0))) = false by simp [hy, h], if_neg (by simp)]
   rw [show (z.natAbs : Int) = -z by omega, Int.neg_mul] at hd'
   omega
  ·rw [show (!(decide (y < 0) == decide (z < 0))) = true by simp [hy, h], if_pos rfl, Int.mul_neg]
   rw [show (z.natAbs : Int) = z by omega] at hd'
   omega) (by omega) (by omega)
 exact ⟨this.1.symm, by rw [this.2]; rfl⟩
theorem div_neg_rest {y z : Int} (hy : y < 0) (hz : z ≠ 0) (hr : 0 < y.natAbs % z.natAbs) : sgnd (!(decide (y < 0) == decide (z < 0))) (y.natAbs / z.natAbs + 1) = y / z ∧ sgnd false (z.natAbs - y.natAbs % z.natAbs) = y % z := by
 have hd := Nat.div_add_mod y.natAbs z.natAbs
 have hm := Nat.mod_lt y.natAbs (show 0 < z.natAbs by omega)
 generalize y.natAbs / z.natAbs = q at *
 generalize y.natAbs % z.natAbs = r at *
 have hd' : (z.natAbs : Int) * q + r = y.natAbs := by rw [← hd]; simp
 have := ediv_eq (y := y) (z := z) (q := sgnd (!(decide (y < 0) == decide (z < 0))) (q + 1)) (r := ((z.natAbs - r : Nat) : Int)) (by
  unfold sgnd
  by_cases h : z < 0
  ·rw [show (!(decide (y < 0) == decide (z < 0))) = false by simp [hy, h], if_neg (by simp)]
   rw [show (z.natAbs : Int) = -z by omega, Int.neg_mul] at hd'
   rw [Int.natCast_add, Int.mul_add]
   omega
  ·rw [show (!(decide (y < 0) == decide (z < 0))) = true by simp [hy, h], if_pos rfl]
   rw [show (z.natAbs : Int) = z by omega] at hd'
   rw [Int.mul_neg, Int.natCast_add, Int.mul_add]
   omega) (by omega) (by omega)
 exact ⟨this.1.symm, by rw [this.2]; rfl⟩
set_option maxRecDepth 100000 in
set_option maxHeartbeats 1600000 in
theorem numDiv_pos (u v : Value) (y z : Int) (w : World) (hu : NumV w u y) (hv : NumV w v z) (sy : nl y.natAbs ≤ 4000000000000) (sz : nl z.natAbs ≤ 4000000000000) (hz : z ≠ 0) (h1 : ¬ y < 0) :
  Calls Tryz.prog 136 #[u, v] w (RetNum2 w (y / z) (y % z)) := by
 have hz0 : 0 < z.natAbs := by omega
 have HEQ := Lib.hid (div_nonneg_eq h1 hz)
 obtain ⟨a, n, c, rfl, hy⟩ := hu
 obtain ⟨a', n', c', rfl, hz⟩ := hv
 have HY := Lib.hid hy
 have HZ := Lib.hid hz
 clear hy hz
 have hp : false = decide (y < 0) := by simpa using h1
 obtain ⟨q, hq⟩ : ∃ q, q = decide (z < 0) := ⟨_, rfl⟩
 rw [← hp, ← hq]
 rw [← hp, ← hq, show (!(false == q)) = q by cases q <;> rfl] at HEQ
 have HSQ : Hid (nl (y.natAbs / z.natAbs) ≤ 100000000000000) := by have := nl_mono (Nat.div_le_self y.natAbs z.natAbs); unfold Hid; omega
 have HSR : Hid (nl (y.natAbs % z.natAbs) ≤ 100000000000000) := by have := nl_mono (Nat.le_of_lt (Nat.mod_lt y.natAbs hz0)); unfold Hid; omega
 clear hp hq
 go_enter Tryz.func136, Tryz.ntmps136
 go_wp2_with fail
 have hb := box4 w (.cells #[.bool false, .slice a n c] 88) (.cells #[.bool q, .slice a' n' c'] 88) (.cells #[.bool false, .slice none 0 0] 88) (.cells #[.bool false, .slice none 0 0] 88)
 generalize (((w.alloc (.cells #[.bool false, .slice a n c] 88)).alloc (.cells #[.bool q, .slice a' n' c'] 88)).alloc (.cells #[.bool false, .slice none 0 0] 88)).alloc (.cells #[.bool false, .slice none 0 0] 88) = W0 at *
 refine (natDivide_any _ _ y.natAbs z.natAbs W0 (HY.out.ext hb.1) (HZ.out.ext hb.1) (by omega) (by omega) hz0).mono ?_
 rintro e W ⟨qv, rv, rfl, hqv, hrv, hx⟩
 obtain ⟨x0, b0, b1, b2, b3⟩ := hb
 have HQV := Lib.hid hqv
 have HRV := Lib.hid hrv
 obtain ⟨ar, cr, rfl, _, _⟩ := hrv
 have X0 := Lib.hid (x0.trans hx)
 have B0 := Lib.hid (hx.block b0)
 have B1 := Lib.hid (hx.block b1)
 have B2 := Lib.hid (hx.block b2)
 have B3 := Lib.hid (hx.block b3)
 have c0 := cell2_0 (hx.block b0)
 have c1 := cell2_1 (hx.block b1)
 have hrl : (limbs (y.natAbs % z.natAbs)).length ≤ 5000000000000 := by
  have := nl_mono (Nat.le_of_lt (Nat.mod_lt y.natAbs hz0)); unfold nl at this sz; omega
 clear x0 b0 b1 b2 b3 hqv hx
 have e0 := cell2_0 (B0.out)
 have e1 := cell2_0 (B1.out)
 go_wp2_with fail
 refine (number_any _ _ (y.natAbs / z.natAbs) _ HQV.out HSQ.out).mono ?_
 rintro e w2 ⟨v2, rfl, ⟨a2, n2, c2', rfl, hs2⟩, hx2⟩
 have HX2 := Lib.hid hx2
 have HS2 := Lib.hid hs2
 clear hs2 hx2
 go_wp2_with fail
 refine (number_any _ _ (y.natAbs % z.natAbs) _ (HRV.out.ext HX2.out) HSR.out).mono ?_
 rintro e w3 ⟨v3, rfl, ⟨a3, n3, c3', rfl, hs3⟩, hx3⟩
 have HX3 := Lib.hid hx3
 have HS3 := Lib.hid hs3
 have C2 := Lib.hid ((HX2.out.trans HX3.out).block B2.out)
 have C3 := Lib.hid ((HX2.out.trans HX3.out).block B3.out)
 have d0 := cell2_0 C2.out
 have d1 := cell2_1 C2.out
 have f0 := frozen_of_row _ _ 0 _ _ C2.out
 have f1 := frozen_of_row _ _ 1 _ _ C2.out
 have d2 := cell2_0 C3.out
 have d3 := cell2_1 C3.out
 have f2 := frozen_of_row _ _ 0 _ _ C3.out
 have f3 := frozen_of_row _ _ 1 _ _ C3.out
 clear hs3 hx3
 go_wp2_with fail
 have hb4 := blk4 (v0 := .bool (decide (sgnd q (y.natAbs / z.natAbs) < 0))) (v1 := .slice a2 n2 c2') (v2 := .bool (decide (sgnd false (y.natAbs % z.natAbs) < 0))) (v3 := .slice a3 n3 c3') C2.out C3.out (by omega)
 have hn3 : NoInts ((w3.setCell ⟨w.heap.size + 1 + 1, 0, none⟩ (.bool (decide (sgnd q (y.natAbs / z.natAbs) < 0)))).setCell ⟨w.heap.size + 1 + 1, 1, none⟩ (.slice a2 n2 c2')) (w.heap.size + 1 + 1 + 1) := by
  refine noInts2 (t := 88) (b := false) (a := none) (n := 0) (c := 0) ?_
  rw [(grown2 w3 (w.heap.size + 1 + 1) _ _).block _ (lt_of_block C3.out) (by simp)]
  exact C3.out
 refine ret_num2 rfl rfl hb4.1 rfl hb4.2 rfl ⟨_, _, rfl, ?_, ?_, ?_⟩
 ·have hs := ((HS2.out.ext HX3.out).grown (noInts2 C2.out) (grown2 _ _ (.bool (decide (sgnd q (y.natAbs / z.natAbs) < 0))) (.slice a2 n2 c2'))).grown hn3 (grown2 _ _ (.bool (decide (sgnd false (y.natAbs % z.natAbs) < 0))) (.slice a3 n3 c3'))
  rw [show sgnd q (y.natAbs / z.natAbs) = y / z from HEQ.out.1, show sgnd false (y.natAbs % z.natAbs) = y % z from HEQ.out.2] at hs ⊢
  exact num_of' rfl hs
 ·have hs := (HS3.out.grown (noInts2 C2.out) (grown2 _ _ (.bool (decide (sgnd q (y.natAbs / z.natAbs) < 0))) (.slice a2 n2 c2'))).grown hn3 (grown2 _ _ (.bool (decide (sgnd false (y.natAbs % z.natAbs) < 0))) (.slice a3 n3 c3'))
  rw [show sgnd q (y.natAbs / z.natAbs) = y / z from HEQ.out.1, show sgnd false (y.natAbs % z.natAbs) = y % z from HEQ.out.2] at hs ⊢
  exact num_of' rfl hs
 ·exact ext2 (ext2 ((X0.out.trans HX2.out).trans HX3.out) (by omega) _ _) (by omega) _ _
set_option maxRecDepth 100000 in
set_option maxHeartbeats 1600000 in
theorem numDiv_ex (u v : Value) (y z : Int) (w : World) (hu : NumV w u y) (hv : NumV w v z) (sy : nl y.natAbs ≤ 4000000000000) (sz : nl z.natAbs ≤ 4000000000000) (hz : z ≠ 0) (h1 : y < 0) (hr : y.natAbs % z.natAbs = 0) :
  Calls Tryz.prog 136 #[u, v] w (RetNum2 w (y / z) (y % z)) := by
 have hz0 : 0 < z.natAbs := by omega
 have HEQ := Lib.hid (div_neg_exact h1 hz hr)
 obtain ⟨a, n, c, rfl, hy⟩ := hu
 obtain ⟨a', n', c', rfl, hz⟩ := hv
 have HY := Lib.hid hy
 have HZ := Lib.hid hz
 clear hy hz
 have hp : true = decide (y < 0) := by simpa using h1
 obtain ⟨q, hq⟩ : ∃ q, q = decide (z < 0) := ⟨_, rfl⟩
 rw [← hp, ← hq]
 rw [← hp, ← hq, show (!(true == q)) = (!q) by cases q <;> rfl] at HEQ
 have HSQ : Hid (nl (y.natAbs / z.natAbs) ≤ 100000000000000) := by have := nl_mono (Nat.div_le_self y.natAbs z.natAbs); unfold Hid; omega
 have HSR : Hid (nl (y.natAbs % z.natAbs) ≤ 100000000000000) := by have := nl_mono (Nat.le_of_lt (Nat.mod_lt y.natAbs hz0)); unfold Hid; omega
 have HRR := Lib.hid hr
 clear hr
 clear hp hq
 go_enter Tryz.func136, Tryz.ntmps136
 go_wp2_with fail
 have hb := box4 w (.cells #[.bool true, .slice a n c] 88) (.cells #[.bool q, .slice a' n' c'] 88) (.cells #[.bool false, .slice none 0 0] 88) (.cells #[.bool false, .slice none 0 0] 88)
 generalize (((w.alloc (.cells #[.bool true, .slice a n c] 88)).alloc (.cells #[.bool q, .slice a' n' c'] 88)).alloc (.cells #[.bool false, .slice none 0 0] 88)).alloc (.cells #[.bool false, .slice none 0 0] 88) = W0 at *
 refine (natDivide_any _ _ y.natAbs z.natAbs W0 (HY.out.ext hb.1) (HZ.out.ext hb.1) (by omega) (by omega) hz0).mono ?_
 rintro e W ⟨qv, rv, rfl, hqv, hrv, hx⟩
 obtain ⟨x0, b0, b1, b2, b3⟩ := hb
 have HQV := Lib.hid hqv
 have HRV := Lib.hid hrv
 obtain ⟨ar, cr, rfl, _, _⟩ := hrv
 have X0 := Lib.hid (x0.trans hx)
 have B0 := Lib.hid (hx.block b0)
 have B1 := Lib.hid (hx.block b1)
 have B2 := Lib.hid (hx.block b2)
 have B3 := Lib.hid (hx.block b3)
 have c0 := cell2_0 (hx.block b0)
 have c1 := cell2_1 (hx.block b1)
 have hrl : (limbs (y.natAbs % z.natAbs)).length ≤ 5000000000000 := by
  have := nl_mono (Nat.le_of_lt (Nat.mod_lt y.natAbs hz0)); unfold nl at this sz; omega
 clear x0 b0 b1 b2 b3 hqv hx
 have hr0 : (limbs (y.natAbs % z.natAbs)).length = 0 := by rw [HRR.out, limbs_zero]; rfl
 have e0 := cell2_0 (B0.out)
 have e1 := cell2_0 (B1.out)
 rw [hr0]
 rw [hr0] at HRV
 clear hr0 hrl
 go_wp2_with fail
 refine (number_any _ _ (y.natAbs / z.natAbs) _ HQV.out HSQ.out).mono ?_
 rintro e w2 ⟨v2, rfl, ⟨a2, n2, c2', rfl, hs2⟩, hx2⟩
 have HX2 := Lib.hid hx2
 have HS2 := Lib.hid hs2
 clear hs2 hx2
 go_wp2_with fail
 refine (number_any _ _ (y.natAbs % z.natAbs) _ (HRV.out.ext HX2.out) HSR.out).mono ?_
 rintro e w3 ⟨v3, rfl, ⟨a3, n3, c3', rfl, hs3⟩, hx3⟩
 have HX3 := Lib.hid hx3
 have HS3 := Lib.hid hs3
 have C2 := Lib.hid ((HX2.out.trans HX3.out).block B2.out)
 have C3 := Lib.hid ((HX2.out.trans HX3.out).block B3.out)
 have d0 := cell2_0 C2.out
 have d1 := cell2_1 C2.out
 have f0 := frozen_of_row _ _ 0 _ _ C2.out
 have f1 := frozen_of_row _ _ 1 _ _ C2.out
 have d2 := cell2_0 C3.out
 have d3 := cell2_1 C3.out
 have f2 := frozen_of_row _ _ 0 _ _ C3.out
 have f3 := frozen_of_row _ _ 1 _ _ C3.out
 clear hs3 hx3
 go_wp2_with fail
 have hb4 := blk4 (v0 := .bool (decide (sgnd (!q) (y.natAbs / z.natAbs) < 0))) (v1 := .slice a2 n2 c2') (v2 := .bool (decide (sgnd false (y.natAbs % z.natAbs) < 0))) (v3 := .slice a3 n3 c3') C2.out C3.out (by omega)
 have hn3 : NoInts ((w3.setCell ⟨w.heap.size + 1 + 1, 0, none⟩ (.bool (decide (sgnd (!q) (y.natAbs / z.natAbs) < 0)))).setCell ⟨w.heap.size + 1 + 1, 1, none⟩ (.slice a2 n2 c2')) (w.heap.size + 1 + 1 + 1) := by
  refine noInts2 (t := 88) (b := false) (a := none) (n := 0) (c := 0) ?_
  rw [(grown2 w3 (w.heap.size + 1 + 1) _ _).block _ (lt_of_block C3.out) (by simp)]
  exact C3.out
 refine ret_num2 rfl rfl hb4.1 rfl hb4.2 rfl ⟨_, _, rfl, ?_, ?_, ?_⟩
 ·have hs := ((HS2.out.ext HX3.out).grown (noInts2 C2.out) (grown2 _ _ (.bool (decide (sgnd (!q) (y.natAbs / z.natAbs) < 0))) (.slice a2 n2 c2'))).grown hn3 (grown2 _ _ (.bool (decide (sgnd false (y.natAbs % z.natAbs) < 0))) (.slice a3 n3 c3'))
  rw [show sgnd (!q) (y.natAbs / z.natAbs) = y / z from HEQ.out.1, show sgnd false (y.natAbs % z.natAbs) = y % z from HEQ.out.2] at hs ⊢
  exact num_of' rfl hs
 ·have hs := (HS3.out.grown (noInts2 C2.out) (grown2 _ _ (.bool (decide (sgnd (!q) (y.natAbs / z.natAbs) < 0))) (.slice a2 n2 c2'))).grown hn3 (grown2 _ _ (.bool (decide (sgnd false (y.natAbs % z.natAbs) < 0))) (.slice a3 n3 c3'))
  rw [show sgnd (!q) (y.natAbs / z.natAbs) = y / z from HEQ.out.1, show sgnd false (y.natAbs % z.natAbs) = y % z from HEQ.out.2] at hs ⊢
  exact num_of' rfl hs
 ·exact ext2 (ext2 ((X0.out.trans HX2.out).trans HX3.out) (by omega) _ _) (by omega) _ _
theorem one_new (W : World) : NatV (W.alloc (Obj.cells #[Value.int IntKind.u64 1] 162)).drew (.slice (some ⟨W.heap.size, 0, none⟩) 1 1) 1 := by
 have hr := (row_one W 1).ext ((Ext.refl _).drew)
 refine ⟨_, 1, by rw [limbs_one (by omega) (by omega)]; rfl, by rw [limbs_one (by omega) (by omega)]; simp, ?_⟩
 rw [limbs_one (by omega) (by omega)]; exact hr
set_option maxRecDepth 100000 in
set_option maxHeartbeats 1600000 in
theorem numDiv_rest (u v : Value) (y z : Int) (w : World) (hu : NumV w u y) (hv : NumV w v z) (sy : nl y.natAbs ≤ 4000000000000) (sz : nl z.natAbs ≤ 4000000000000) (hz : z ≠ 0) (h1 : y < 0) (hr : 0 < y.natAbs % z.natAbs) :
  Calls Tryz.prog 136 #[u, v] w (RetNum2 w (y / z) (y % z)) := by
 have hz0 : 0 < z.natAbs := by omega
 have HEQ := Lib.hid (div_neg_rest h1 hz hr)
 obtain ⟨a, n, c, rfl, hy⟩ := hu
 obtain ⟨a', n', c', rfl, hz⟩ := hv
 have HY := Lib.hid hy
 have HZ := Lib.hid hz
 clear hy hz
 have hp : true = decide (y < 0) := by simpa using h1
 obtain ⟨q, hq⟩ : ∃ q, q = decide (z < 0) := ⟨_, rfl⟩
 rw [← hp, ← hq]
 rw [← hp, ← hq, show (!(true == q)) = (!q) by cases q <;> rfl] at HEQ
 have HSQ : Hid (nl (y.natAbs / z.natAbs + 1) ≤ 100000000000000) := by have h1 := nl_mono (Nat.div_le_self y.natAbs z.natAbs); have h2 := nl_add (y.natAbs / z.natAbs) 1; have h3 : nl 1 ≤ 1 := (by unfold nl; rw [limbs_one (by omega) (by omega)]; simp); unfold Hid; omega
 have HSR : Hid (nl (z.natAbs - y.natAbs % z.natAbs) ≤ 100000000000000) := by have := nl_mono (Nat.sub_le z.natAbs (y.natAbs % z.natAbs)); unfold Hid; omega
 clear hp hq
 go_enter Tryz.func136, Tryz.ntmps136
 go_wp2_with fail
 have hb := box4 w (.cells #[.bool true, .slice a n c] 88) (.cells #[.bool q, .slice a' n' c'] 88) (.cells #[.bool false, .slice none 0 0] 88) (.cells #[.bool false, .slice none 0 0] 88)
 generalize (((w.alloc (.cells #[.bool true, .slice a n c] 88)).alloc (.cells #[.bool q, .slice a' n' c'] 88)).alloc (.cells #[.bool false, .slice none 0 0] 88)).alloc (.cells #[.bool false, .slice none 0 0] 88) = W0 at *
 refine (natDivide_any _ _ y.natAbs z.natAbs W0 (HY.out.ext hb.1) (HZ.out.ext hb.1) (by omega) (by omega) hz0).mono ?_
 rintro e W ⟨qv, rv, rfl, hqv, hrv, hx⟩
 obtain ⟨x0, b0, b1, b2, b3⟩ := hb
 have HQV := Lib.hid hqv
 have HRV := Lib.hid hrv
 obtain ⟨ar, cr, rfl, _, _⟩ := hrv
 have X0 := Lib.hid (x0.trans hx)
 have B0 := Lib.hid (hx.block b0)
 have B1 := Lib.hid (hx.block b1)
 have B2 := Lib.hid (hx.block b2)
 have B3 := Lib.hid (hx.block b3)
 have c0 := cell2_0 (hx.block b0)
 have c1 := cell2_1 (hx.block b1)
 have hrl : (limbs (y.natAbs % z.natAbs)).length ≤ 5000000000000 := by
  have := nl_mono (Nat.le_of_lt (Nat.mod_lt y.natAbs hz0)); unfold nl at this sz; omega
 clear x0 b0 b1 b2 b3 hqv hx
 have hr0 : 0 < (limbs (y.natAbs % z.natAbs)).length := len_pos.2 hr
 have hd : decide (0 < ((limbs (y.natAbs % z.natAbs)).length : Int)) = true := by simp only [decide_eq_true_eq]; omega
 have HA := Lib.hid (fun (W' : World) (x : Ext W W') (v : Value) (hv : NatV W' v 1) => natAdd_any _ _ (y.natAbs / z.natAbs) 1 W' (HQV.out.ext x) hv (by have := nl_mono (Nat.div_le_self y.natAbs z.natAbs); omega) (by unfold nl; rw [limbs_one (by omega) (by omega)]; simp))
 have HB := Lib.hid (fun (W' : World) (x : Ext W W') => natSub_any _ _ z.natAbs (y.natAbs % z.natAbs) W' (HZ.out.ext (X0.out.trans x)) (HRV.out.ext x) (by omega) (Nat.le_of_lt (Nat.mod_lt y.natAbs hz0)))
 go_wp2_with fail
 go_region_held3 (fun w' => w'.cell? ⟨w.heap.size + 1, 1, none⟩ = some (.slice a' n' c')) (go_keep)
  (first
   | (go_at_call 144; refine (HA.out _ ?_ _ ?_).mono ?_; (exact ((Ext.refl _).alloc _).drew); (exact one_new W); rintro e w1 ⟨v1, rfl, hv1, hx0⟩; have x1 : Ext W w1 := (((Ext.refl W).alloc _).drew).trans hx0; have k1 := x1.cell (p := ⟨w.heap.size + 1, 1, none⟩) c1; have HV1 := Lib.hid hv1; have XX1 := Lib.hid x1; clear hv1 hx0 x1)
   | (go_at_call 146; refine (HB.out _ XX1.out).mono ?_; rintro e w1b ⟨v1b, rfl, hv1b, hx1b⟩; have k2 := hx1b.cell (p := ⟨w.heap.size + 1, 1, none⟩) k1; have HV1B := Lib.hid hv1b; have XX1B := Lib.hid hx1b; clear hv1b hx1b))
 have HQV2 := Lib.hid (HV1.out.ext XX1B.out)
 have XA := Lib.hid (X0.out.trans (XX1.out.trans XX1B.out))
 have B0' := Lib.hid ((XX1.out.trans XX1B.out).block B0.out)
 have B1' := Lib.hid ((XX1.out.trans XX1B.out).block B1.out)
 have B2' := Lib.hid ((XX1.out.trans XX1B.out).block B2.out)
 have B3' := Lib.hid ((XX1.out.trans XX1B.out).block B3.out)
 clear c0 c1 k1 k2
 have e0 := cell2_0 (B0'.out)
 have e1 := cell2_0 (B1'.out)
 go_wp2_with fail
 refine (number_any _ _ (y.natAbs / z.natAbs + 1) _ HQV2.out HSQ.out).mono ?_
 rintro e w2 ⟨v2, rfl, ⟨a2, n2, c2', rfl, hs2⟩, hx2⟩
 have HX2 := Lib.hid hx2
 have HS2 := Lib.hid hs2
 clear hs2 hx2
 go_wp2_with fail
 refine (number_any _ _ (z.natAbs - y.natAbs % z.natAbs) _ (HV1B.out.ext HX2.out) HSR.out).mono ?_
 rintro e w3 ⟨v3, rfl, ⟨a3, n3, c3', rfl, hs3⟩, hx3⟩
 have HX3 := Lib.hid hx3
 have HS3 := Lib.hid hs3
 have C2 := Lib.hid ((HX2.out.trans HX3.out).block B2'.out)
 have C3 := Lib.hid ((HX2.out.trans HX3.out).block B3'.out)
 have d0 := cell2_0 C2.out
 have d1 := cell2_1 C2.out
 have f0 := frozen_of_row _ _ 0 _ _ C2.out
 have f1 := frozen_of_row _ _ 1 _ _ C2.out
 have d2 := cell2_0 C3.out
 have d3 := cell2_1 C3.out
 have f2 := frozen_of_row _ _ 0 _ _ C3.out
 have f3 := frozen_of_row _ _ 1 _ _ C3.out
 clear hs3 hx3
 go_wp2_with fail
 have hb4 := blk4 (v0 := .bool (decide (sgnd (!q) (y.natAbs / z.natAbs + 1) < 0))) (v1 := .slice a2 n2 c2') (v2 := .bool (decide (sgnd false (z.natAbs - y.natAbs % z.natAbs) < 0))) (v3 := .slice a3 n3 c3') C2.out C3.out (by omega)
 have hn3 : NoInts ((w3.setCell ⟨w.heap.size + 1 + 1, 0, none⟩ (.bool (decide (sgnd (!q) (y.natAbs / z.natAbs + 1) < 0)))).setCell ⟨w.heap.size + 1 + 1, 1, none⟩ (.slice a2 n2 c2')) (w.heap.size + 1 + 1 + 1) := by
  refine noInts2 (t := 88) (b := false) (a := none) (n := 0) (c := 0) ?_
  rw [(grown2 w3 (w.heap.size + 1 + 1) _ _).block _ (lt_of_block C3.out) (by simp)]
  exact C3.out
 refine ret_num2 rfl rfl hb4.1 rfl hb4.2 rfl ⟨_, _, rfl, ?_, ?_, ?_⟩
 ·have hs := ((HS2.out.ext HX3.out).grown (noInts2 C2.out) (grown2 _ _ (.bool (decide (sgnd (!q) (y.natAbs / z.natAbs + 1) < 0))) (.slice a2 n2 c2'))).grown hn3 (grown2 _ _ (.bool (decide (sgnd false (z.natAbs - y.natAbs % z.natAbs) < 0))) (.slice a3 n3 c3'))
  rw [show sgnd (!q) (y.natAbs / z.natAbs + 1) = y / z from HEQ.out.1, show sgnd false (z.natAbs - y.natAbs % z.natAbs) = y % z from HEQ.out.2] at hs ⊢
  exact num_of' rfl hs
 ·have hs := (HS3.out.grown (noInts2 C2.out) (grown2 _ _ (.bool (decide (sgnd (!q) (y.natAbs / z.natAbs + 1) < 0))) (.slice a2 n2 c2'))).grown hn3 (grown2 _ _ (.bool (decide (sgnd false (z.natAbs - y.natAbs % z.natAbs) < 0))) (.slice a3 n3 c3'))
  rw [show sgnd (!q) (y.natAbs / z.natAbs + 1) = y / z from HEQ.out.1, show sgnd false (z.natAbs - y.natAbs % z.natAbs) = y % z from HEQ.out.2] at hs ⊢
  exact num_of' rfl hs
 ·exact ext2 (ext2 ((XA.out.trans HX2.out).trans HX3.out) (by omega) _ _) (by omega) _ _
theorem numDiv_any (u v : Value) (y z : Int) (w : World) (hu : NumV w u y) (hv : NumV w v z) (sy : nl y.natAbs ≤ 4000000000000) (sz : nl z.natAbs ≤ 4000000000000) (hz : z ≠ 0) :
  Calls Tryz.prog 136 #[u, v] w (RetNum2 w (y / z) (y % z)) := by
 by_cases h1 : y < 0
 ·rcases Nat.eq_zero_or_pos (y.natAbs % z.natAbs) with h2 | h2
  ·exact numDiv_ex u v y z w hu hv sy sz hz h1 h2
  ·exact numDiv_rest u v y z w hu hv sy sz hz h1 h2
 ·exact numDiv_pos u v y z w hu hv sy sz hz h1
end Go.Proofs.YtldokelpolbnnaaGreatDoor
end
section
namespace Go.Proofs.YtldokelpolbnnaaGreatDoor
open Go.RowKit
theorem row_three (w1 : World) (r s t : Nat) : Row (w1.alloc (Obj.cells #[Value.int IntKind.u64 (r : Int), Value.int IntKind.u64 (s : Int), Value.int IntKind.u64 (t : Int)] 162)) (some ⟨w1.heap.size, 0, none⟩) (u64s [r, s, t]) := by
 intro j hj
 have : j < 3 := by simpa [u64s] using hj
 match j, this with
 | 0, _ => exact ⟨_, _, rfl, by simp [u64s]⟩
 | 1, _ => exact ⟨_, _, rfl, by simp [u64s]⟩
 | 2, _ => exact ⟨_, _, rfl, by simp [u64s]⟩
theorem u64_of_neg {n : Int} (h : n < 0) (h2 : -9223372036854775808 ≤ n) : IntKind.u64.wrap (-(IntKind.u64.wrap n)) = ((n.natAbs : Nat) : Int) := by
 have e : ∀ n : Int, IntKind.u64.wrap n = n % 18446744073709551616 := fun n => by simp [IntKind.wrap, IntKind.signed, IntKind.bits]
 rw [e, e]; omega
theorem u64_of_pos {n : Int} (h : 0 ≤ n) (h2 : n ≤ 9223372036854775807) : IntKind.u64.wrap n = ((n.natAbs : Nat) : Int) := by
 have e : ∀ n : Int, IntKind.u64.wrap n = n % 18446744073709551616 := fun n => by simp [IntKind.wrap, IntKind.signed, IntKind.bits]
 rw [e]; omega
set_option maxRecDepth 100000 in
set_option maxHeartbeats 800000 in
theorem numOf_any (n : Int) (w : World) (h1 : -9223372036854775808 ≤ n) (h2 : n ≤ 9223372036854775807) :
  Calls Tryz.prog 87 #[.int .i64 n] w (RetNum w n) := by
 obtain ⟨m, hm⟩ : ∃ m, m = n.natAbs := ⟨_, rfl⟩
 have hm1 : m ≤ 9223372036854775808 := by omega
 have HM := Lib.hid hm
 by_cases hn : n < 0
 ·have hw := u64_of_neg hn h1
  rw [← hm] at hw
  clear hm
  go_enter Tryz.func87, Tryz.ntmps87
  go_wp2_with fail
  rw [show (m : Int) % 1000000000 = ((m % 1000000000 : Nat) : Int) by omega, show (m : Int) / 1000000000 % 1000000000 = ((m / 1000000000 % 1000000000 : Nat) : Int) by omega, show (m : Int) / 1000000000 / 1000000000 = ((m / 1000000000 / 1000000000 : Nat) : Int) by omega]
  have hrow := row_three (w.alloc (Obj.cells #[Value.bool false, Value.slice none 0 0] 88)) (m % 1000000000) (m / 1000000000 % 1000000000) (m / 1000000000 / 1000000000)
  have hsz : (w.alloc (Obj.cells #[Value.bool false, Value.slice none 0 0] 88)).heap.size = w.heap.size + 1 := by simp
  rw [hsz] at hrow
  have hx : Ext w ((w.alloc (Obj.cells #[Value.bool false, Value.slice none 0 0] 88)).alloc (Obj.cells #[Value.int IntKind.u64 ((m % 1000000000 : Nat) : Int), Value.int IntKind.u64 ((m / 1000000000 % 1000000000 : Nat) : Int), Value.int IntKind.u64 ((m / 1000000000 / 1000000000 : Nat) : Int)] 162)) := ((Ext.refl w).alloc _).alloc _
  have hblk : ((w.alloc (Obj.cells #[Value.bool false, Value.slice none 0 0] 88)).alloc (Obj.cells #[Value.int IntKind.u64 ((m % 1000000000 : Nat) : Int), Value.int IntKind.u64 ((m / 1000000000 % 1000000000 : Nat) : Int), Value.int IntKind.u64 ((m / 1000000000 / 1000000000 : Nat) : Int)] 162)).heap[w.heap.size]? = some (Obj.cells #[Value.bool false, Value.slice none 0 0] 88 (0, 0)) := heap_alloc2_old _ _ _
  generalize (w.alloc (Obj.cells #[Value.bool false, Value.slice none 0 0] 88)).alloc (Obj.cells #[Value.int IntKind.u64 ((m % 1000000000 : Nat) : Int), Value.int IntKind.u64 ((m / 1000000000 % 1000000000 : Nat) : Int), Value.int IntKind.u64 ((m / 1000000000 / 1000000000 : Nat) : Int)] 162) = W at *
  refine (trim_len _ _ _ [m % 1000000000, m / 1000000000 % 1000000000, m / 1000000000 / 1000000000] _ rfl (by simp) (by simp) hrow).mono ?_
  rintro e w' ⟨rfl, rfl⟩
  have HNAT := Lib.hid (nat_of_trim (cap := 3) (Low.cons (by omega) (Low.cons (by omega) (Low.cons (by omega) Low.nil))) hrow (n := m) (by simp [val]; omega) (by simp))
  have HX := Lib.hid hx
  have HBL := Lib.hid hblk
  clear hrow hx hblk hsz
  go_wp2_with fail
  refine (number_any _ _ m _ HNAT.out (by have := nl_le_of_lt (n := m) (k := 3) (by omega); omega)).mono ?_
  rintro e w2 ⟨v2, rfl, ⟨a2, n2, c2', rfl, hs2⟩, hx2⟩
  have HX2 := Lib.hid hx2
  have HS2 := Lib.hid hs2
  have BB := Lib.hid (HX2.out.block HBL.out)
  have d0 := cell2_0 BB.out
  have d1 := cell2_1 BB.out
  have f0 := frozen_of_row _ _ 0 _ _ BB.out
  have f1 := frozen_of_row _ _ 1 _ _ BB.out
  clear hs2 hx2
  go_wp2_with fail
  refine ret_num rfl rfl (blk2_set BB.out) rfl ⟨_, rfl, ?_, ext2 (HX.out.trans HX2.out) (Nat.le_refl _) _ _⟩
  have hs := HS2.out.grown (noInts2 BB.out) (grown2 _ _ (.bool (decide (sgnd true m < 0))) (.slice a2 n2 c2'))
  rw [show sgnd true m = n by unfold sgnd; have := HM.out; simp; omega] at hs ⊢
  exact num_of' rfl hs
 ·have hw := u64_of_pos (show 0 ≤ n by omega) h2
  rw [← hm] at hw
  clear hm
  go_enter Tryz.func87, Tryz.ntmps87
  go_wp2_with fail
  rw [show (m : Int) % 1000000000 = ((m % 1000000000 : Nat) : Int) by omega, show (m : Int) / 1000000000 % 1000000000 = ((m / 1000000000 % 1000000000 : Nat) : Int) by omega, show (m : Int) / 1000000000 / 1000000000 = ((m / 1000000000 / 1000000000 : Nat) : Int) by omega]
  have hrow := row_three (w.alloc (Obj.cells #[Value.bool false, Value.slice none 0 0] 88)) (m % 1000000000) (m / 1000000000 % 1000000000) (m / 1000000000 / 1000000000)
  have hsz : (w.alloc (Obj.cells #[Value.bool false, Value.slice none 0 0] 88)).heap.size = w.heap.size + 1 := by simp
  rw [hsz] at hrow
  have hx : Ext w ((w.alloc (Obj.cells #[Value.bool false, Value.slice none 0 0] 88)).alloc (Obj.cells #[Value.int IntKind.u64 ((m % 1000000000 : Nat) : Int), Value.int IntKind.u64 ((m / 1000000000 % 1000000000 : Nat) : Int), Value.int IntKind.u64 ((m / 1000000000 / 1000000000 : Nat) : Int)] 162)) := ((Ext.refl w).alloc _).alloc _
  have hblk : ((w.alloc (Obj.cells #[Value.bool false, Value.slice none 0 0] 88)).alloc (Obj.cells #[Value.int IntKind.u64 ((m % 1000000000 : Nat) : Int), Value.int IntKind.u64 ((m / 1000000000 % 1000000000 : Nat) : Int), Value.int IntKind.u64 ((m / 1000000000 / 1000000000 : Nat) : Int)] 162)).heap[w.heap.size]? = some (Obj.cells #[Value.bool false, Value.slice none 0 0] 88 (0, 0)) := heap_alloc2_old _ _ _
  generalize (w.alloc (Obj.cells #[Value.bool false, Value.slice none 0 0] 88)).alloc (Obj.cells #[Value.int IntKind.u64 ((m % 1000000000 : Nat) : Int), Value.int IntKind.u64 ((m / 1000000000 % 1000000000 : Nat) : Int), Value.int IntKind.u64 ((m / 1000000000 / 1000000000 : Nat) : Int)] 162) = W at *
  refine (trim_len _ _ _ [m % 1000000000, m / 1000000000 % 1000000000, m / 1000000000 / 1000000000] _ rfl (by simp) (by simp) hrow).mono ?_
  rintro e w' ⟨rfl, rfl⟩
  have HNAT := Lib.hid (nat_of_trim (cap := 3) (Low.cons (by omega) (Low.cons (by omega) (Low.cons (by omega) Low.nil))) hrow (n := m) (by simp [val]; omega) (by simp))
  have HX := Lib.hid hx
  have HBL := Lib.hid hblk
  clear hrow hx hblk hsz
  go_wp2_with fail
  refine (number_any _ _ m _ HNAT.out (by have := nl_le_of_lt (n := m) (k := 3) (by omega); omega)).mono ?_
  rintro e w2 ⟨v2, rfl, ⟨a2, n2, c2', rfl, hs2⟩, hx2⟩
  have HX2 := Lib.hid hx2
  have HS2 := Lib.hid hs2
  have BB := Lib.hid (HX2.out.block HBL.out)
  have d0 := cell2_0 BB.out
  have d1 := cell2_1 BB.out
  have f0 := frozen_of_row _ _ 0 _ _ BB.out
  have f1 := frozen_of_row _ _ 1 _ _ BB.out
  clear hs2 hx2
  go_wp2_with fail
  refine ret_num rfl rfl (blk2_set BB.out) rfl ⟨_, rfl, ?_, ext2 (HX.out.trans HX2.out) (Nat.le_refl _) _ _⟩
  have hs := HS2.out.grown (noInts2 BB.out) (grown2 _ _ (.bool (decide (sgnd false m < 0))) (.slice a2 n2 c2'))
  rw [show sgnd false m = n by unfold sgnd; have := HM.out; simp; omega] at hs ⊢
  exact num_of' rfl hs
end Go.Proofs.YtldokelpolbnnaaGreatDoor
end
section
namespace Go.Proofs.YtldokelpolbnnaaGreatDoor
open Go.RowKit
def FracV (w : World) (v : Value) (q : Rat) : Prop :=
 ∃ a n c a' n' c', v = .agg #[.bool (decide (q.num < 0)), .slice a n c, .bool false, .slice a' n' c'] ∧ NatV w (.slice a n c) q.num.natAbs ∧ NatV w (.slice a' n' c') q.den
theorem FracV.ext {w w' : World} {v : Value} {q : Rat} (h : FracV w v q) (x : Ext w w') : FracV w' v q := by
 obtain ⟨a, n, c, a', n', c', h1, h2, h3⟩ := h; exact ⟨a, n, c, a', n', c', h1, h2.ext x, h3.ext x⟩
theorem FracV.grown {w w' : World} {v : Value} {q : Rat} {g : Nat} (h : FracV w v q) (hg : NoInts w g) (hw : w.grownBy w' (some g)) : FracV w' v q := by
 obtain ⟨a, n, c, a', n', c', h1, h2, h3⟩ := h; exact ⟨a, n, c, a', n', c', h1, h2.grown hg hw, h3.grown hg hw⟩
theorem NumV.grown {w w' : World} {v : Value} {z : Int} {g : Nat} (h : NumV w v z) (hg : NoInts w g) (hw : w.grownBy w' (some g)) : NumV w' v z := by
 obtain ⟨a, n, c, h1, h2⟩ := h; exact ⟨a, n, c, h1, h2.grown hg hw⟩
def RetFrac (w : World) (q : Rat) (e : Ending) (w' : World) : Prop := ∃ v, e = .returned v ∧ FracV w' v q ∧ Ext w w'
theorem NumV.opn {w : World} {v : Value} {z : Int} (h : NumV w v z) : ∃ b a n c, v = .agg #[.bool b, .slice a n c] ∧ NumV w (.agg #[.bool b, .slice a n c]) z := by
 obtain ⟨a, n, c, rfl, h2⟩ := h; exact ⟨_, a, n, c, rfl, a, n, c, rfl, h2⟩
theorem FracV.opn {w : World} {v : Value} {q : Rat} (h : FracV w v q) : ∃ b a n c b' a' n' c', v = .agg #[.bool b, .slice a n c, .bool b', .slice a' n' c'] ∧ FracV w (.agg #[.bool b, .slice a n c, .bool b', .slice a' n' c']) q := by
 obtain ⟨a, n, c, a', n', c', rfl, h2, h3⟩ := h; exact ⟨_, a, n, c, _, a', n', c', rfl, a, n, c, a', n', c', rfl, h2, h3⟩
theorem FracV.num {w : World} {b b' : Bool} {a a' : Option Addr} {n n' c c' : Nat} {q : Rat} (h : FracV w (.agg #[.bool b, .slice a n c, .bool b', .slice a' n' c']) q) : NumV w (.agg #[.bool b, .slice a n c]) q.num := by
 obtain ⟨_, _, _, _, _, _, h1, h2, h3⟩ := h
 simp only [Value.agg.injEq, Array.mk.injEq, List.cons.injEq, Value.bool.injEq, Value.slice.injEq, and_true] at h1
 obtain ⟨rfl, ⟨rfl, rfl, rfl⟩, rfl, rfl, rfl, rfl⟩ := h1
 exact ⟨_, _, _, rfl, h2⟩
theorem FracV.den {w : World} {b b' : Bool} {a a' : Option Addr} {n n' c c' : Nat} {q : Rat} (h : FracV w (.agg #[.bool b, .slice a n c, .bool b', .slice a' n' c']) q) : NumV w (.agg #[.bool b', .slice a' n' c']) q.den := by
 obtain ⟨_, _, _, _, _, _, h1, h2, h3⟩ := h
 simp only [Value.agg.injEq, Array.mk.injEq, List.cons.injEq, Value.bool.injEq, Value.slice.injEq, and_true] at h1
 obtain ⟨rfl, ⟨rfl, rfl, rfl⟩, rfl, rfl, rfl, rfl⟩ := h1
 refine ⟨_, _, _, ?_, by rw [Int.natAbs_natCast]; exact h3⟩
 rw [show decide (((q.den : Nat) : Int) < 0) = false by simp only [decide_eq_false_iff_not]; omega]
theorem frac_of {w : World} {u v : Value} {x : Int} {d : Nat} {q : Rat} {b b' : Bool} {a a' : Option Addr} {n n' c c' : Nat} (hu : u = .agg #[.bool b, .slice a n c]) (hv : v = .agg #[.bool b', .slice a' n' c'])
  (h1 : NumV w u x) (h2 : NumV w v d) (hx : q.num = x) (hd : q.den = d) : FracV w (.agg #[.bool b, .slice a n c, .bool b', .slice a' n' c']) q := by
 subst hu hv
 obtain ⟨_, _, _, e1, k1⟩ := h1
 obtain ⟨_, _, _, e2, k2⟩ := h2
 simp only [Value.agg.injEq, Array.mk.injEq, List.cons.injEq, Value.bool.injEq, Value.slice.injEq, and_true] at e1 e2
 obtain ⟨rfl, rfl, rfl, rfl⟩ := e1
 obtain ⟨rfl, rfl, rfl, rfl⟩ := e2
 refine ⟨_, _, _, _, _, _, ?_, by rw [hx]; exact k1, by rw [hd]; rw [Int.natAbs_natCast] at k2; exact k2⟩
 rw [hx, show decide (((d : Nat) : Int) < 0) = false by simp only [decide_eq_false_iff_not]; omega]
theorem cell4_0 {w : World} {g : Nat} {x y z u : Value} {t : TypeId} (h : w.heap[g]? = some (.cells #[x, y, z, u] t (0, 0))) : w.cell? ⟨g, 0, none⟩ = some x := by rw [cell_of_row _ _ _ _ _ _ h]; rfl
theorem cell4_1 {w : World} {g : Nat} {x y z u : Value} {t : TypeId} (h : w.heap[g]? = some (.cells #[x, y, z, u] t (0, 0))) : w.cell? ⟨g, 1, none⟩ = some y := by rw [cell_of_row _ _ _ _ _ _ h]; rfl
theorem cell4_2 {w : World} {g : Nat} {x y z u : Value} {t : TypeId} (h : w.heap[g]? = some (.cells #[x, y, z, u] t (0, 0))) : w.cell? ⟨g, 2, none⟩ = some z := by rw [cell_of_row _ _ _ _ _ _ h]; rfl
theorem cell4_3 {w : World} {g : Nat} {x y z u : Value} {t : TypeId} (h : w.heap[g]? = some (.cells #[x, y, z, u] t (0, 0))) : w.cell? ⟨g, 3, none⟩ = some u := by rw [cell_of_row _ _ _ _ _ _ h]; rfl
theorem blk4_set {w : World} {g : Nat} {t : TypeId} {o0 o1 o2 o3 v0 v1 v2 v3 : Value} (h : w.heap[g]? = some (.cells #[o0, o1, o2, o3] t (0, 0))) :
  ((((w.setCell ⟨g, 0, none⟩ v0).setCell ⟨g, 1, none⟩ v1).setCell ⟨g, 2, none⟩ v2).setCell ⟨g, 3, none⟩ v3).heap[g]? = some (.cells #[v0, v1, v2, v3] t (0, 0)) := by
 rw [heap_setCell_same _ _ _ _ _ _ (heap_setCell_same _ _ _ _ _ _ (heap_setCell_same _ _ _ _ _ _ (heap_setCell_same _ _ _ _ _ _ h)))]; rfl
theorem grown4 (w : World) (g : Nat) (v0 v1 v2 v3 : Value) : w.grownBy ((((w.setCell ⟨g, 0, none⟩ v0).setCell ⟨g, 1, none⟩ v1).setCell ⟨g, 2, none⟩ v2).setCell ⟨g, 3, none⟩ v3) (some g) :=
 grown_trans (grown2 _ _ _ _) (grown_trans (grown_setCell _ _ _) (grown_setCell _ _ _))
theorem ext4 {a w : World} {g : Nat} (h : Ext a w) (hg : a.heap.size ≤ g) (v0 v1 v2 v3 : Value) : Ext a ((((w.setCell ⟨g, 0, none⟩ v0).setCell ⟨g, 1, none⟩ v1).setCell ⟨g, 2, none⟩ v2).setCell ⟨g, 3, none⟩ v3) :=
 ((ext2 h hg v0 v1).setCell (p := ⟨g, 2, none⟩) hg v2).setCell (p := ⟨g, 3, none⟩) hg v3
theorem noInts4 {w : World} {g : Nat} {t : TypeId} {b b' : Bool} {a a' : Option Addr} {n c n' c' : Nat} (h : w.heap[g]? = some (.cells #[.bool b, .slice a n c, .bool b', .slice a' n' c'] t (0, 0))) : NoInts w g := by
 refine ⟨_, _, _, h, fun j k z e => ?_⟩
 match j with
 | 0 => simp at e
 | 1 => simp at e
 | 2 => simp at e
 | 3 => simp at e
 | j + 4 => simp at e
theorem Tryz.size90 : (Tryz.prog.info? 90).map (·.size) = some 4 := by kernel_rfl
theorem ret_frac {fn : Func} {p : Tmp} {R : Ending → World → Prop} {a : Act} {w : World} {g : Nat} {v0 v1 v2 v3 : Value} (h : fn.results = #[.cell p 90])
  (hp : a.tmps.getD p undef = .pointer (some ⟨g, 0, none⟩)) (hg : w.heap[g]? = some (.cells #[v0, v1, v2, v3] 90 (0, 0))) (hd : a.defers = []) (hR : R (.returned (.agg #[v0, v1, v2, v3])) w) :
  bodyPost Tryz.prog fn R .ret a w :=
 ⟨hd, _, results_cell_row h a.tmps w g _ _ _ _ hp hg Tryz.underlying90 rfl Tryz.size90, hR⟩
set_option maxRecDepth 100000 in
set_option maxHeartbeats 400000 in
theorem fracSign_any (v : Value) (q : Rat) (w : World) (h : FracV w v q) (hn : nl q.num.natAbs ≤ 100000000000000) :
  Calls Tryz.prog 95 #[v] w fun e w' => e = .returned (.int .i64 (sgn q.num)) ∧ Ext w w' := by
 have H := Lib.hid h
 obtain ⟨a, n, c, a', n', c', rfl, _, _⟩ := h
 have hx : Ext w (w.alloc (.cells #[.bool (decide (q.num < 0)), .slice a n c, .bool false, .slice a' n' c'] 90)) := (Ext.refl w).alloc _
 have HX := Lib.hid hx
 have hs := Lib.hid (numSign_any _ q.num _ (H.out.num.ext hx) hn)
 clear hx
 go_enter Tryz.func95, Tryz.ntmps95
 go_wp2_with fail
 refine hs.out.mono ?_
 rintro e w1 ⟨rfl, hx1⟩
 have HX1 := Lib.hid hx1
 clear hx1
 go_wp2_with fail
 go_ret
 exact ⟨rfl, HX.out.trans HX1.out⟩
end Go.Proofs.YtldokelpolbnnaaGreatDoor
end
section
namespace Go.Proofs.YtldokelpolbnnaaGreatDoor
open Go.RowKit
theorem box1 (w : World) (A : Obj) : Ext w (w.alloc A) ∧ (w.alloc A).heap[w.heap.size]? = some A := ⟨(Ext.refl w).alloc _, heap_alloc_new w A⟩
theorem box2 (w : World) (A B : Obj) : Ext w ((w.alloc A).alloc B) ∧ ((w.alloc A).alloc B).heap[w.heap.size]? = some A ∧ ((w.alloc A).alloc B).heap[w.heap.size + 1]? = some B :=
 ⟨((Ext.refl w).alloc _).alloc _, heap_alloc2_old w A B, heap_alloc2_new w A B⟩
theorem run_build_frac (w : World) (x0 x1 y0 y1 : Value) : (Instr.build 90 #[(0, .agg #[x0, x1]), (1, .agg #[y0, y1])]).run Tryz.prog w = .ok (.agg #[x0, x1, y0, y1]) w := by kernel_rfl
theorem nl_one : nl 1 ≤ 1 := by unfold nl; rw [limbs_one (by omega) (by omega)]; simp
theorem sgn_eq_zero {d : Nat} : (sgn ((d : Int) - 1) == 0) = decide (d = 1) := by
 rcases Int.lt_trichotomy ((d : Int) - 1) 0 with h | h | h
 ·rw [sgn_neg h, decide_eq_false (by omega)]; rfl
 ·rw [h, sgn_zero, decide_eq_true (by omega)]; rfl
 ·rw [sgn_pos h, decide_eq_false (by omega)]; rfl
set_option maxRecDepth 100000 in
set_option maxHeartbeats 1600000 in
theorem fracWhole_any (v : Value) (q : Rat) (w : World) (hv : FracV w v q) (hd : nl q.den ≤ 4000000000000) :
  Calls Tryz.prog 104 #[v] w fun e w' => e = .returned (.bool (decide (q.den = 1))) ∧ Ext w w' := by
 have Hv := Lib.hid hv
 obtain ⟨a, n, c, a', n', c', rfl, _, _⟩ := hv
 obtain ⟨p, hp⟩ : ∃ p, p = decide (q.num < 0) := ⟨_, rfl⟩
 rw [← hp] at Hv ⊢
 clear hp
 go_enter Tryz.func104, Tryz.ntmps104
 go_wp2_with fail
 have hb := box1 w (.cells #[.bool p, .slice a n c, .bool false, .slice a' n' c'] 90)
 generalize w.alloc (.cells #[.bool p, .slice a n c, .bool false, .slice a' n' c'] 90) = W at *
 obtain ⟨x0, b0⟩ := hb
 have X0 := Lib.hid x0
 have B0 := Lib.hid b0
 clear x0 b0
 have c0 := cell4_0 B0.out
 have c1 := cell4_1 B0.out
 have c2 := cell4_2 B0.out
 have c3 := cell4_3 B0.out
 have HO := Lib.hid (fun (W' : World) (_ : Ext W W') => numOf_any 1 W' (by omega) (by omega))
 go_region_held3 (fun w' => w'.cell? ⟨w.heap.size, 0, none⟩ = some (.bool p) ∧ w'.cell? ⟨w.heap.size, 1, none⟩ = some (.slice a n c) ∧ w'.cell? ⟨w.heap.size, 2, none⟩ = some (.bool false) ∧ w'.cell? ⟨w.heap.size, 3, none⟩ = some (.slice a' n' c')) (go_keep)
  (first
   | (go_at_call 87; refine (HO.out _ (Ext.refl _).drew).mono ?_; rintro e w1 ⟨v1, rfl, hv1, hx0⟩; have k0_0 := hx0.cell (p := ⟨w.heap.size, 0, none⟩) c0; have k0_1 := hx0.cell (p := ⟨w.heap.size, 1, none⟩) c1; have k0_2 := hx0.cell (p := ⟨w.heap.size, 2, none⟩) c2; have k0_3 := hx0.cell (p := ⟨w.heap.size, 3, none⟩) c3; have HV1 := Lib.hid hv1; have HX1 := Lib.hid hx0; clear hv1; clear hx0)
   | (go_at_call 86; refine (numCompare_any _ _ q.den 1 _ (Hv.out.den.ext (X0.out.trans ((Ext.refl _).drew.trans HX1.out))) HV1.out (by rw [Int.natAbs_natCast]; omega) (by have := nl_one; simp; omega)).mono ?_; rintro e w2 ⟨rfl, hx1⟩; have k1_0 := hx1.cell (p := ⟨w.heap.size, 0, none⟩) k0_0; have k1_1 := hx1.cell (p := ⟨w.heap.size, 1, none⟩) k0_1; have k1_2 := hx1.cell (p := ⟨w.heap.size, 2, none⟩) k0_2; have k1_3 := hx1.cell (p := ⟨w.heap.size, 3, none⟩) k0_3; have HX2 := Lib.hid hx1; clear hx1 k0_0 k0_1 k0_2 k0_3))
 go_wp2_with fail
 go_ret
 exact ⟨congrArg (fun b => Ending.returned (.bool b)) sgn_eq_zero, (X0.out.trans ((Ext.refl _).drew.trans HX1.out)).trans HX2.out⟩
set_option maxRecDepth 100000 in
set_option maxHeartbeats 400000 in
theorem fracNum_any (v : Value) (q : Rat) (w : World) (hv : FracV w v q) :
  Calls Tryz.prog 137 #[v] w (RetNum w q.num) := by
 have Hv := Lib.hid hv
 obtain ⟨a, n, c, a', n', c', rfl, _, _⟩ := hv
 obtain ⟨p, hp⟩ : ∃ p, p = decide (q.num < 0) := ⟨_, rfl⟩
 rw [← hp] at Hv ⊢
 clear hp
 go_enter Tryz.func137, Tryz.ntmps137
 go_wp2_with fail
 refine ret_num rfl rfl (heap_alloc2_new _ _ _) rfl ⟨_, rfl, Hv.out.num.ext (((Ext.refl w).alloc _).alloc _), ((Ext.refl w).alloc _).alloc _⟩
set_option maxRecDepth 100000 in
set_option maxHeartbeats 400000 in
theorem fracDen_any (v : Value) (q : Rat) (w : World) (hv : FracV w v q) :
  Calls Tryz.prog 135 #[v] w (RetNum w q.den) := by
 have Hv := Lib.hid hv
 obtain ⟨a, n, c, a', n', c', rfl, _, _⟩ := hv
 obtain ⟨p, hp⟩ : ∃ p, p = decide (q.num < 0) := ⟨_, rfl⟩
 rw [← hp] at Hv ⊢
 clear hp
 go_enter Tryz.func135, Tryz.ntmps135
 go_wp2_with fail
 refine ret_num rfl rfl (heap_alloc2_new _ _ _) rfl ⟨_, rfl, Hv.out.den.ext (((Ext.refl w).alloc _).alloc _), ((Ext.refl w).alloc _).alloc _⟩
set_option maxRecDepth 100000 in
set_option maxHeartbeats 1600000 in
theorem fracOfNum_any (v : Value) (z : Int) (w : World) (hv : NumV w v z) :
  Calls Tryz.prog 105 #[v] w (RetFrac w (z : Rat)) := by
 have Hv := Lib.hid hv
 obtain ⟨a, n, c, rfl, _⟩ := hv
 obtain ⟨p, hp⟩ : ∃ p, p = decide (z < 0) := ⟨_, rfl⟩
 rw [← hp] at Hv ⊢
 clear hp
 go_enter Tryz.func105, Tryz.ntmps105
 go_wp2_with fail
 have hb := box2 w (.cells #[.bool p, .slice a n c] 88) (.cells #[.bool false, .slice none 0 0, .bool false, .slice none 0 0] 90)
 generalize (w.alloc (.cells #[.bool p, .slice a n c] 88)).alloc (.cells #[.bool false, .slice none 0 0, .bool false, .slice none 0 0] 90) = W at *
 obtain ⟨x0, b0, b1⟩ := hb
 have X0 := Lib.hid x0
 have B0 := Lib.hid b0
 have B1 := Lib.hid b1
 clear x0 b0 b1
 have c0 := cell2_0 B0.out
 have c1 := cell2_1 B0.out
 have hbu := run_build_frac
 have HO := Lib.hid (fun (W' : World) (_ : Ext W W') => numOf_any 1 W' (by omega) (by omega))
 go_region_with (first
   | (go_at_call 87; refine (HO.out _ (Ext.refl _).drew).mono ?_; rintro e w1 ⟨v1, rfl, ⟨a1, n1, c1', rfl, hs1⟩, hx0⟩; have k0_0 := hx0.cell (p := ⟨w.heap.size, 0, none⟩) c0; have k0_1 := hx0.cell (p := ⟨w.heap.size, 1, none⟩) c1; have HN1 : Hid (NumV w1 (.agg #[.bool false, .slice a1 n1 c1']) ((1 : Nat) : Int)) := num_of' rfl hs1; have HX1 := Lib.hid hx0; have BB := Lib.hid (HX1.out.block (g := w.heap.size + 1) B1.out); have d0 := cell4_0 BB.out; have d1 := cell4_1 BB.out; have d2 := cell4_2 BB.out; have d3 := cell4_3 BB.out; have f0 := frozen_of_row _ _ 0 _ _ BB.out; have f1 := frozen_of_row _ _ 1 _ _ BB.out; have f2 := frozen_of_row _ _ 2 _ _ BB.out; have f3 := frozen_of_row _ _ 3 _ _ BB.out; clear hs1; clear hx0))
 all_goals
  go_wp2_with fail
  refine ret_frac rfl rfl (blk4_set BB.out) rfl ⟨_, rfl, (frac_of (q := (z : Rat)) (d := 1) rfl rfl (Hv.out.ext (X0.out.trans ((Ext.refl _).drew.trans HX1.out))) HN1.out (Rat.num_intCast z) (Rat.den_intCast z)).grown (noInts4 BB.out) (grown4 _ _ _ _ _ _), ext4 (X0.out.trans ((Ext.refl _).drew.trans HX1.out)) (by omega) _ _ _ _⟩
set_option maxRecDepth 100000 in
set_option maxHeartbeats 1600000 in
theorem fracOf_any (z : Int) (w : World) (h1 : -9223372036854775808 ≤ z) (h2 : z ≤ 9223372036854775807) :
  Calls Tryz.prog 60 #[.int .i64 z] w (RetFrac w (z : Rat)) := by
 go_enter Tryz.func60, Tryz.ntmps60
 go_wp2_with fail
 have hb := box1 w (.cells #[.bool false, .slice none 0 0, .bool false, .slice none 0 0] 90)
 generalize w.alloc (.cells #[.bool false, .slice none 0 0, .bool false, .slice none 0 0] 90) = W at *
 obtain ⟨x0, b0⟩ := hb
 have X0 := Lib.hid x0
 have B0 := Lib.hid b0
 clear x0 b0
 refine (numOf_any z W h1 h2).mono ?_
 rintro e w1 ⟨v1, rfl, hv1, hx1⟩
 have HV1 := Lib.hid hv1
 have HX1 := Lib.hid hx1
 clear hv1 hx1
 go_wp2_with fail
 refine (fracOfNum_any _ z _ HV1.out).mono ?_
 rintro e w2 ⟨v2, rfl, hv2, hx2⟩
 have HV2 := Lib.hid hv2
 obtain ⟨a1, n1, c1, a1', n1', c1', rfl, _, _⟩ := hv2
 have HX2 := Lib.hid hx2
 have BB := Lib.hid ((HX1.out.trans HX2.out).block B0.out)
 have d0 := cell4_0 BB.out
 have d1 := cell4_1 BB.out
 have d2 := cell4_2 BB.out
 have d3 := cell4_3 BB.out
 have f0 := frozen_of_row _ _ 0 _ _ BB.out
 have f1 := frozen_of_row _ _ 1 _ _ BB.out
 have f2 := frozen_of_row _ _ 2 _ _ BB.out
 have f3 := frozen_of_row _ _ 3 _ _ BB.out
 clear hx2
 all_goals
  go_wp2_with fail
  refine ret_frac rfl rfl (blk4_set BB.out) rfl ⟨_, rfl, HV2.out.grown (noInts4 BB.out) (grown4 _ _ _ _ _ _), ext4 ((X0.out.trans HX1.out).trans HX2.out) (by omega) _ _ _ _⟩
set_option maxRecDepth 100000 in
set_option maxHeartbeats 1600000 in
theorem fracNeg_any (v : Value) (q : Rat) (w : World) (hv : FracV w v q) (hs : nl q.num.natAbs ≤ 4000000000000) :
  Calls Tryz.prog 61 #[v] w (RetFrac w (-q)) := by
 have Hv := Lib.hid hv
 obtain ⟨a, n, c, a', n', c', rfl, _, _⟩ := hv
 obtain ⟨p, hp⟩ : ∃ p, p = decide (q.num < 0) := ⟨_, rfl⟩
 rw [← hp] at Hv ⊢
 clear hp
 go_enter Tryz.func61, Tryz.ntmps61
 go_wp2_with fail
 have hb := box2 w (.cells #[.bool p, .slice a n c, .bool false, .slice a' n' c'] 90) (.cells #[.bool false, .slice none 0 0, .bool false, .slice none 0 0] 90)
 generalize (w.alloc (.cells #[.bool p, .slice a n c, .bool false, .slice a' n' c'] 90)).alloc (.cells #[.bool false, .slice none 0 0, .bool false, .slice none 0 0] 90) = W at *
 obtain ⟨x0, b0, b1⟩ := hb
 have X0 := Lib.hid x0
 have B0 := Lib.hid b0
 have B1 := Lib.hid b1
 clear x0 b0 b1
 have c0 := cell4_0 B0.out
 have c1 := cell4_1 B0.out
 have c2 := cell4_2 B0.out
 have c3 := cell4_3 B0.out
 have hbu := run_build_frac
 have HO := Lib.hid (fun (W' : World) (x : Ext W W') => numNeg_any _ q.num W' (Hv.out.num.ext (X0.out.trans x)) (by omega))
 go_region_with (first
   | (go_at_call 109; refine (HO.out _ (Ext.refl _).drew).mono ?_; rintro e w1 ⟨v1, rfl, hv1, hx0⟩; obtain ⟨b1, a1, n1, c1', rfl, hs1⟩ := hv1.opn; have k0_0 := hx0.cell (p := ⟨w.heap.size, 0, none⟩) c0; have k0_1 := hx0.cell (p := ⟨w.heap.size, 1, none⟩) c1; have k0_2 := hx0.cell (p := ⟨w.heap.size, 2, none⟩) c2; have k0_3 := hx0.cell (p := ⟨w.heap.size, 3, none⟩) c3; have HS1 := Lib.hid hs1; have HX1 := Lib.hid hx0; have BB := Lib.hid (HX1.out.block (g := w.heap.size + 1) B1.out); have d0 := cell4_0 BB.out; have d1 := cell4_1 BB.out; have d2 := cell4_2 BB.out; have d3 := cell4_3 BB.out; have f0 := frozen_of_row _ _ 0 _ _ BB.out; have f1 := frozen_of_row _ _ 1 _ _ BB.out; have f2 := frozen_of_row _ _ 2 _ _ BB.out; have f3 := frozen_of_row _ _ 3 _ _ BB.out; clear hs1 hv1; clear hx0))
 all_goals
  go_wp2_with fail
  refine ret_frac rfl rfl (blk4_set BB.out) rfl ⟨_, rfl, (frac_of (q := -q) rfl rfl HS1.out (Hv.out.den.ext (X0.out.trans ((Ext.refl _).drew.trans HX1.out))) (Rat.neg_num q) (Rat.neg_den q)).grown (noInts4 BB.out) (grown4 _ _ _ _ _ _), ext4 (X0.out.trans ((Ext.refl _).drew.trans HX1.out)) (by omega) _ _ _ _⟩
end Go.Proofs.YtldokelpolbnnaaGreatDoor
end
section
namespace Go.Proofs.YtldokelpolbnnaaGreatDoor
open Go.RowKit
def NewRel (w : World) (s : Nat) (y z : Int) (_ : Value) (wx : World) : Prop :=
 ∃ b a n c b' a' n' c' y' z', wx.heap[s]? = some (.cells #[.bool b, .slice a n c] 88 (0, 0)) ∧ wx.heap[s + 1]? = some (.cells #[.bool b', .slice a' n' c'] 88 (0, 0)) ∧
  wx.heap[s + 1 + 1]? = some (.cells #[.bool false, .slice none 0 0, .bool false, .slice none 0 0] 90 (0, 0)) ∧
  NumV wx (.agg #[.bool b, .slice a n c]) y' ∧ NumV wx (.agg #[.bool b', .slice a' n' c']) z' ∧ 0 < z' ∧ Rat.divInt y' z' = Rat.divInt y z ∧ y'.natAbs = y.natAbs ∧ z'.natAbs = z.natAbs ∧ Ext w wx
theorem divInt_neg_neg (y z : Int) : Rat.divInt (-y) (-z) = Rat.divInt y z := by
 rw [Rat.divInt_eq_div, Rat.divInt_eq_div, Rat.intCast_neg, Rat.intCast_neg]
 by_cases h : (z : Rat) = 0
 ·rw [h]; simp [Rat.div_def]
 ·have : -(z : Rat) ≠ 0 := by grind
  grind
theorem divInt_coprime {y z : Int} (hz : 0 < z) (hg : Nat.gcd y.natAbs z.natAbs = 1) : (Rat.divInt y z).num = y ∧ (Rat.divInt y z).den = z.natAbs := by
 have e : (z : Int) = ((z.natAbs : Nat) : Int) := by omega
 rw [e, Rat.divInt_ofNat, Rat.mkRat_def, dif_neg (by omega), Rat.normalize_eq]
 simp only [Int.natAbs_natCast, hg]
 simp
theorem divInt_gcd {y z : Int} {G : Nat} (hz : 0 < z) (hg : G = Nat.gcd y.natAbs z.natAbs) : (Rat.divInt y z).num = y / G ∧ (Rat.divInt y z).den = z.natAbs / G := by
 have e : (z : Int) = ((z.natAbs : Nat) : Int) := by omega
 rw [e, Rat.divInt_ofNat, Rat.mkRat_def, dif_neg (by omega), Rat.normalize_eq]
 subst hg
 constructor <;> simp
theorem newRel_neg {w w2 : World} {s : Nat} {y z : Int} {o0 o1 b b' : Bool} {a a' p0 p1 : Option Addr} {n n' c c' m0 m1 k0 k1 : Nat} (hx : Ext w w2) (hs : w.heap.size ≤ s) (hz : z < 0) (v : Value)
  (h0 : w2.heap[s]? = some (.cells #[.bool o0, .slice p0 m0 k0] 88 (0, 0))) (h1 : w2.heap[s + 1]? = some (.cells #[.bool o1, .slice p1 m1 k1] 88 (0, 0)))
  (h2 : w2.heap[s + 1 + 1]? = some (.cells #[.bool false, .slice none 0 0, .bool false, .slice none 0 0] 90 (0, 0)))
  (hn : NumV w2 (.agg #[.bool b, .slice a n c]) (-y)) (hd : NumV w2 (.agg #[.bool b', .slice a' n' c']) (-z)) :
  NewRel w s y z v ((((w2.setCell ⟨s, 0, none⟩ (.bool b)).setCell ⟨s, 1, none⟩ (.slice a n c)).setCell ⟨s + 1, 0, none⟩ (.bool b')).setCell ⟨s + 1, 1, none⟩ (.slice a' n' c')) ∧
  NewRel w s y z v ((((w2.setCell ⟨s + 1, 0, none⟩ (.bool b')).setCell ⟨s + 1, 1, none⟩ (.slice a' n' c')).setCell ⟨s, 0, none⟩ (.bool b)).setCell ⟨s, 1, none⟩ (.slice a n c)) := by
 have hm : Rat.divInt (-y) (-z) = Rat.divInt y z := divInt_neg_neg y z
 constructor
 ·have hb := blk4 (v0 := .bool b) (v1 := .slice a n c) (v2 := .bool b') (v3 := .slice a' n' c') h0 h1 (by omega)
  have hg1 := grown2 w2 s (.bool b) (.slice a n c)
  have hg2 := grown2 ((w2.setCell ⟨s, 0, none⟩ (.bool b)).setCell ⟨s, 1, none⟩ (.slice a n c)) (s + 1) (.bool b') (.slice a' n' c')
  have hno : NoInts ((w2.setCell ⟨s, 0, none⟩ (.bool b)).setCell ⟨s, 1, none⟩ (.slice a n c)) (s + 1) := by
   refine noInts2 (t := 88) (b := o1) (a := p1) (n := m1) (c := k1) ?_
   rw [hg1.block _ (lt_of_block h1) (by simp)]; exact h1
  refine ⟨b, a, n, c, b', a', n', c', -y, -z, hb.1, hb.2, ?_, (hn.grown (noInts2 h0) hg1).grown hno hg2, (hd.grown (noInts2 h0) hg1).grown hno hg2, by omega, hm, by omega, by omega, ext2 (ext2 hx hs _ _) (by omega) _ _⟩
  rw [hg2.block _ (by have := lt_of_block h2; have := hg1.size; omega) (by simp), hg1.block _ (lt_of_block h2) (by simp; omega)]; exact h2
 ·have hb := blk4 (v0 := .bool b') (v1 := .slice a' n' c') (v2 := .bool b) (v3 := .slice a n c) h1 h0 (by omega)
  have hg1 := grown2 w2 (s + 1) (.bool b') (.slice a' n' c')
  have hg2 := grown2 ((w2.setCell ⟨s + 1, 0, none⟩ (.bool b')).setCell ⟨s + 1, 1, none⟩ (.slice a' n' c')) s (.bool b) (.slice a n c)
  have hno : NoInts ((w2.setCell ⟨s + 1, 0, none⟩ (.bool b')).setCell ⟨s + 1, 1, none⟩ (.slice a' n' c')) s := by
   refine noInts2 (t := 88) (b := o0) (a := p0) (n := m0) (c := k0) ?_
   rw [hg1.block _ (lt_of_block h0) (by simp)]; exact h0
  refine ⟨b, a, n, c, b', a', n', c', -y, -z, hb.2, hb.1, ?_, (hn.grown (noInts2 h1) hg1).grown hno hg2, (hd.grown (noInts2 h1) hg1).grown hno hg2, by omega, hm, by omega, by omega, ext2 (ext2 hx (by omega) _ _) hs _ _⟩
  rw [hg2.block _ (by have := lt_of_block h2; have := hg1.size; omega) (by simp; omega), hg1.block _ (lt_of_block h2) (by simp)]; exact h2
set_option maxRecDepth 100000 in
set_option maxHeartbeats 3200000 in
theorem fracNew_any (u v : Value) (y z : Int) (w : World) (hu : NumV w u y) (hv : NumV w v z) (sy : nl y.natAbs ≤ 4000000000000) (sz : nl z.natAbs ≤ 4000000000000) (hz : z ≠ 0) :
  Calls Tryz.prog 107 #[u, v] w (RetFrac w (Rat.divInt y z)) := by
 obtain ⟨p, a, n, c, rfl, hu⟩ := hu.opn
 obtain ⟨q, a', n', c', rfl, hv⟩ := hv.opn
 have HU := Lib.hid hu
 have HV := Lib.hid hv
 clear hu hv
 go_enter Tryz.func107, Tryz.ntmps107
 go_wp2_with fail
 have hb := box3 w (.cells #[.bool p, .slice a n c] 88) (.cells #[.bool q, .slice a' n' c'] 88) (.cells #[.bool false, .slice none 0 0, .bool false, .slice none 0 0] 90)
 generalize ((w.alloc (.cells #[.bool p, .slice a n c] 88)).alloc (.cells #[.bool q, .slice a' n' c'] 88)).alloc (.cells #[.bool false, .slice none 0 0, .bool false, .slice none 0 0] 90) = W at *
 obtain ⟨x0, b0, b1, b2⟩ := hb
 have X0 := Lib.hid x0
 have B0 := Lib.hid b0
 have B1 := Lib.hid b1
 have B2 := Lib.hid b2
 clear x0 b0 b1 b2
 refine (numSign_any _ z W (HV.out.ext X0.out) (by omega)).mono ?_
 rintro e W1 ⟨rfl, hx1⟩
 have X1 := Lib.hid hx1
 have C0 := Lib.hid (hx1.block B0.out)
 have C1 := Lib.hid (hx1.block B1.out)
 have C2 := Lib.hid (hx1.block B2.out)
 clear hx1
 obtain ⟨sg, hsg⟩ : ∃ sg, sg = sgn z := ⟨_, rfl⟩
 rw [← hsg]
 have HSG := Lib.hid hsg
 clear hsg
 go_upto_if 8 with fail
 go_cut [8] (NewRel w w.heap.size y z)
 case first =>
  by_cases hzn : z < 0
  ·have hsn : sg < 0 := by rw [HSG.out, sgn_neg hzn]; omega
   have c0 := cell2_0 C0.out
   have c1 := cell2_1 C0.out
   have c2 := cell2_0 C1.out
   have c3 := cell2_1 C1.out
   have HA := Lib.hid (fun (W' : World) (x : Ext W1 W') => numNeg_any _ y W' (HU.out.ext ((X0.out.trans X1.out).trans x)) (by omega))
   have HB := Lib.hid (fun (W' : World) (x : Ext W1 W') => numNeg_any _ z W' (HV.out.ext ((X0.out.trans X1.out).trans x)) (by omega))
   go_wp2_with fail
   go_region_with (first
    | (go_at_call_of 109 (Value.agg #[Value.bool p, Value.slice a n c]); refine (HA.out _ (by repeat (first | exact Ext.refl _ | assumption | refine Ext.alloc ?_ _ | refine Ext.drew ?_ | refine Ext.trans ?_ (by assumption)))).mono ?_; rintro e w1 ⟨v1, rfl, hv1, hx1⟩; obtain ⟨b1, a1, n1, c1', rfl, hs1⟩ := hv1.opn; have HS1 := Lib.hid hs1; have y1 : Ext W1 w1 := (by repeat (first | exact Ext.refl _ | assumption | refine Ext.alloc ?_ _ | refine Ext.drew ?_ | refine Ext.trans ?_ (by assumption))); have k0 := y1.cell (p := ⟨w.heap.size, 0, none⟩) c0; have k1 := y1.cell (p := ⟨w.heap.size, 1, none⟩) c1; have k2 := y1.cell (p := ⟨w.heap.size + 1, 0, none⟩) c2; have k3 := y1.cell (p := ⟨w.heap.size + 1, 1, none⟩) c3; clear hv1 hs1)
    | (go_at_call_of 109 (Value.agg #[Value.bool q, Value.slice a' n' c']); refine (HB.out _ (by repeat (first | exact Ext.refl _ | assumption | refine Ext.alloc ?_ _ | refine Ext.drew ?_ | refine Ext.trans ?_ (by assumption)))).mono ?_; rintro e w2 ⟨v2, rfl, hv2, hx2⟩; obtain ⟨b2, a2, n2, c2', rfl, hs2⟩ := hv2.opn; have HS2 := Lib.hid hs2; have y2 : Ext w1 w2 := hx2; have z2 : Ext W1 w2 := y1.trans y2; have D0 := Lib.hid (z2.block C0.out); have D1 := Lib.hid (z2.block C1.out); have D2 := Lib.hid (z2.block C2.out); have l0 := cell2_0 D0.out; have l1 := cell2_1 D0.out; have l2 := cell2_0 D1.out; have l3 := cell2_1 D1.out; have f0 := frozen_of_row _ _ 0 _ _ D0.out; have f1 := frozen_of_row _ _ 1 _ _ D0.out; have f2 := frozen_of_row _ _ 0 _ _ D1.out; have f3 := frozen_of_row _ _ 1 _ _ D1.out; clear hv2 hs2))
   all_goals (try go_wp2_with fail)
   all_goals go_meet
   all_goals
    have hnr := newRel_neg (v := Value.bool true) ((X0.out.trans X1.out).trans z2) (Nat.le_refl _) hzn D0.out D1.out D2.out (HS1.out.ext y2) HS2.out
    first | exact hnr.1 | exact hnr.2
  ·have hsn : ¬ sg < 0 := by rw [HSG.out, sgn_pos (by omega)]; omega
   go_wp2_with fail
   go_meet
   exact ⟨_, _, _, _, _, _, _, _, y, z, C0.out, C1.out, C2.out, HU.out.ext (X0.out.trans X1.out), HV.out.ext (X0.out.trans X1.out), by omega, rfl, rfl, rfl, X0.out.trans X1.out⟩
 case rest =>
  clear HU HV X0 X1 B0 B1 B2 C0 C1 C2 HSG
  obtain ⟨b, a, n, c, b', a', n', c', y', z', b0, b1, b2, hn, hd, hz0, heq, e1, e2, hx⟩ := hcut
  have sy' : nl y'.natAbs ≤ 4000000000000 := by rw [e1]; exact sy
  have sz' : nl z'.natAbs ≤ 4000000000000 := by rw [e2]; exact sz
  have HN := Lib.hid hn
  have HD := Lib.hid hd
  have HX := Lib.hid hx
  have HEQ := Lib.hid heq
  have B0 := Lib.hid b0
  have B1 := Lib.hid b1
  have B2 := Lib.hid b2
  have c0 := cell2_0 b0
  have c1 := cell2_1 b0
  have c2 := cell2_0 b1
  have c3 := cell2_1 b1
  obtain ⟨G, hG⟩ : ∃ G, G = Nat.gcd y'.natAbs z'.natAbs := ⟨_, rfl⟩
  have hgp : 0 < G := by rw [hG]; exact Nat.gcd_pos_of_pos_right _ (by omega)
  have hgs : nl G ≤ 4000000000000 := by rw [hG]; exact Nat.le_trans (nl_mono (Nat.gcd_le_right _ (by omega))) sz'
  have HG := Lib.hid hG
  have hgc := numGcd_any _ _ y' z' wc hn hd (by omega) (by omega)
  rw [← hG] at hgc
  have HGC := Lib.hid hgc
  clear hn hd hx heq e1 e2 b0 b1 b2 hG hgc sy sz hz
  go_wp2_with fail
  refine HGC.out.mono ?_
  rintro e w1 ⟨v1, rfl, hv1, hx1⟩
  obtain ⟨gb, ga, gn, gc, rfl, hv1⟩ := hv1.opn
  have HV1 := Lib.hid hv1
  have X1 := Lib.hid hx1
  clear hv1 hx1
  go_wp2_with fail
  have hal : Ext w1 (w1.alloc (.cells #[.bool gb, .slice ga gn gc] 88)) := (Ext.refl w1).alloc _
  have hnew := heap_alloc_new w1 (.cells #[.bool gb, .slice ga gn gc] 88)
  have hlt : w.heap.size + 1 + 1 < w1.heap.size := lt_of_block (X1.out.block B2.out)
  obtain ⟨gg, hgg⟩ : ∃ gg, gg = w1.heap.size := ⟨_, rfl⟩
  rw [← hgg] at hnew hlt ⊢
  generalize w1.alloc (.cells #[.bool gb, .slice ga gn gc] 88) = W2 at *
  have XW : Hid (Ext wc W2) := X1.out.trans hal
  have C0 := Lib.hid (XW.out.block B0.out)
  have C1 := Lib.hid (XW.out.block B1.out)
  have C2 := Lib.hid (XW.out.block B2.out)
  have C3 := Lib.hid hnew
  have HV2 := Lib.hid (HV1.out.ext hal)
  have HN2 := Lib.hid (HN.out.ext XW.out)
  have HD2 := Lib.hid (HD.out.ext XW.out)
  have XX := Lib.hid (HX.out.trans XW.out)
  have c0 := cell2_0 hnew
  have c1 := cell2_1 hnew
  clear hal hnew hgg HV1 HN HD HX X1 B0 B1 B2 XW
  have HO := Lib.hid (fun (W' : World) (_ : Ext W2 W') => numOf_any 1 W' (by omega) (by omega))
  go_region_held3 (fun w' => w'.cell? ⟨gg, 0, none⟩ = some (.bool gb) ∧ w'.cell? ⟨gg, 1, none⟩ = some (.slice ga gn gc)) (go_keep)
   (first
    | (go_at_call 87; refine (HO.out _ (Ext.refl _).drew).mono ?_; rintro e w2 ⟨v2, rfl, hv2, hx0⟩; have k0_0 := hx0.cell (p := ⟨gg, 0, none⟩) c0; have k0_1 := hx0.cell (p := ⟨gg, 1, none⟩) c1; have HV1 := Lib.hid hv2; have HX1 := Lib.hid hx0; clear hv2; clear hx0)
    | (go_at_call 86; refine (numCompare_any _ _ (G : Int) 1 _ (HV2.out.ext ((Ext.refl _).drew.trans HX1.out)) HV1.out (by rw [Int.natAbs_natCast]; omega) (by have := nl_one; simp; omega)).mono ?_; rintro e w3 ⟨rfl, hx1⟩; have k1_0 := hx1.cell (p := ⟨gg, 0, none⟩) k0_0; have k1_1 := hx1.cell (p := ⟨gg, 1, none⟩) k0_1; have HX2 := Lib.hid hx1; clear hx1 k0_0 k0_1))
  have X3 := Lib.hid ((Ext.refl W2).drew.trans (HX1.out.trans HX2.out))
  have D0 := Lib.hid (X3.out.block C0.out)
  have D1 := Lib.hid (X3.out.block C1.out)
  have D2 := Lib.hid (X3.out.block C2.out)
  have D3 := Lib.hid (X3.out.block C3.out)
  have HN3 := Lib.hid (HN2.out.ext X3.out)
  have HD3 := Lib.hid (HD2.out.ext X3.out)
  have HV3 := Lib.hid (HV2.out.ext X3.out)
  have XX3 := Lib.hid (XX.out.trans X3.out)
  clear c0 c1 C0 C1 C2 C3 HN2 HD2 HV2 XX X3 HX1 HX2 HV1
  obtain ⟨cm, hcm⟩ : ∃ cm, cm = sgn ((G : Int) - 1) := ⟨_, rfl⟩
  rw [← hcm]
  have HCM := Lib.hid hcm
  clear hcm
  have c0 := cell2_0 D0.out
  have c1 := cell2_1 D0.out
  have c2 := cell2_0 D1.out
  have c3 := cell2_1 D1.out
  have hbu := run_build_frac
  by_cases hG1 : G = 1
  ·have hne : (cm != 0) = false := by rw [HCM.out, hG1]; rfl
   have d0 := cell4_0 D2.out
   have d1 := cell4_1 D2.out
   have d2 := cell4_2 D2.out
   have d3 := cell4_3 D2.out
   have f0 := frozen_of_row _ _ 0 _ _ D2.out
   have f1 := frozen_of_row _ _ 1 _ _ D2.out
   have f2 := frozen_of_row _ _ 2 _ _ D2.out
   have f3 := frozen_of_row _ _ 3 _ _ D2.out
   have hq := divInt_coprime hz0 (show Nat.gcd y'.natAbs z'.natAbs = 1 by rw [← HG.out]; exact hG1)
   rw [HEQ.out] at hq
   have HQ := Lib.hid hq
   clear hq hG1
   go_wp2_with fail
   refine ret_frac rfl rfl (blk4_set D2.out) rfl ⟨_, rfl, (frac_of rfl rfl HN3.out (d := z'.natAbs) (by rw [show ((z'.natAbs : Nat) : Int) = z' by omega]; exact HD3.out) HQ.out.1 HQ.out.2).grown (noInts4 D2.out) (grown4 _ _ _ _ _ _), ext4 XX3.out (by omega) _ _ _ _⟩
  ·have hne : (cm != 0) = true := by rw [HCM.out, bne_iff_ne, sgn_pos (by omega)]; omega
   have hG0 : (G : Int) ≠ 0 := by omega
   have d0 := cell2_0 D3.out
   have d1 := cell2_1 D3.out
   have f0 := frozen_of_row _ _ 0 _ _ D0.out
   have f1 := frozen_of_row _ _ 1 _ _ D0.out
   have hq := divInt_gcd hz0 HG.out
   rw [HEQ.out] at hq
   have HQ := Lib.hid hq
   clear hq hG1
   go_wp2_with fail
   refine (numDiv_any _ _ y' G _ HN3.out HV3.out sy' (by rw [Int.natAbs_natCast]; exact hgs) hG0).mono ?_
   rintro e w4 ⟨v4, v5, rfl, hv4, hv5, hx4⟩
   obtain ⟨b4, a4, n4, c4, rfl, hv4⟩ := hv4.opn
   have X4 := Lib.hid hx4
   have HV4 := Lib.hid hv4
   have E0 := Lib.hid (X4.out.block D0.out)
   have E1 := Lib.hid (X4.out.block D1.out)
   have E2 := Lib.hid (X4.out.block D2.out)
   have E3 := Lib.hid (X4.out.block D3.out)
   have g0 := cell2_0 E0.out
   have g1 := cell2_1 E0.out
   have g2 := frozen_of_row _ _ 0 _ _ E0.out
   have g3 := frozen_of_row _ _ 1 _ _ E0.out
   clear hv4 hv5 hx4 c0 c1 c2 c3 d0 d1 f0 f1
   obtain ⟨W5, hW5⟩ : ∃ W5, W5 = (w4.setCell ⟨w.heap.size, 0, none⟩ (.bool b4)).setCell ⟨w.heap.size, 1, none⟩ (.slice a4 n4 c4) := ⟨_, rfl⟩
   have hg5 : w4.grownBy W5 (some w.heap.size) := by rw [hW5]; exact grown2 _ _ _ _
   have k0 : W5.heap[w.heap.size]? = some (.cells #[.bool b4, .slice a4 n4 c4] 88 (0, 0)) := by rw [hW5]; exact blk2_set E0.out
   have k1 : W5.heap[w.heap.size + 1]? = some (.cells #[.bool b', .slice a' n' c'] 88 (0, 0)) := by rw [hg5.block _ (lt_of_block E1.out) (by simp)]; exact E1.out
   have k2 : W5.heap[w.heap.size + 1 + 1]? = some (.cells #[.bool false, .slice none 0 0, .bool false, .slice none 0 0] 90 (0, 0)) := by rw [hg5.block _ (lt_of_block E2.out) (by simp; omega)]; exact E2.out
   have k3 : W5.heap[gg]? = some (.cells #[.bool gb, .slice ga gn gc] 88 (0, 0)) := by rw [hg5.block _ (lt_of_block E3.out) (by simp; omega)]; exact E3.out
   have hn5 := HV4.out.grown (noInts2 E0.out) hg5
   have hd5 := (HD3.out.ext X4.out).grown (noInts2 E0.out) hg5
   have hv5 := (HV3.out.ext X4.out).grown (noInts2 E0.out) hg5
   have xx5 : Ext w W5 := by rw [hW5]; exact ext2 (XX3.out.trans X4.out) (Nat.le_refl _) _ _
   have HW5 := Lib.hid hW5
   clear hW5 hg5
   go_upto_region 6 with fail
   rw [← HW5.out]
   have K0 := Lib.hid k0
   have K2 := Lib.hid k2
   have K1 := Lib.hid k1
   have c2 := cell2_0 k1
   have c3 := cell2_1 k1
   have d0 := cell2_0 k3
   have d1 := cell2_1 k3
   have HN5 := Lib.hid hn5
   have HD5 := Lib.hid hd5
   have HV5 := Lib.hid hv5
   have XX5 := Lib.hid xx5
   clear k0 k1 k2 k3 hn5 hd5 hv5 xx5 HW5 g0 g1 g2 g3 E0 E1 E2 E3 D0 D1 D2 D3 HN3 HD3 HV3 XX3 X4 HV4
   go_wp2_with fail
   refine (numDiv_any _ _ z' G _ HD5.out HV5.out sz' (by rw [Int.natAbs_natCast]; exact hgs) hG0).mono ?_
   rintro e w6 ⟨v6, v7, rfl, hv6, hv7, hx6⟩
   obtain ⟨b6, a6, n6, c6, rfl, hv6⟩ := hv6.opn
   have X6 := Lib.hid hx6
   have HV6 := Lib.hid hv6
   have E0 := Lib.hid (X6.out.block K0.out)
   have E1 := Lib.hid (X6.out.block K1.out)
   have E2 := Lib.hid (X6.out.block K2.out)
   have g0 := cell2_0 E1.out
   have g1 := cell2_1 E1.out
   have g2 := frozen_of_row _ _ 0 _ _ E1.out
   have g3 := frozen_of_row _ _ 1 _ _ E1.out
   clear hv6 hv7 hx6 c2 c3 d0 d1
   obtain ⟨W7, hW7⟩ : ∃ W7, W7 = (w6.setCell ⟨w.heap.size + 1, 0, none⟩ (.bool b6)).setCell ⟨w.heap.size + 1, 1, none⟩ (.slice a6 n6 c6) := ⟨_, rfl⟩
   have hg7 : w6.grownBy W7 (some (w.heap.size + 1)) := by rw [hW7]; exact grown2 _ _ _ _
   have k1 : W7.heap[w.heap.size + 1]? = some (.cells #[.bool b6, .slice a6 n6 c6] 88 (0, 0)) := by rw [hW7]; exact blk2_set E1.out
   have k0 : W7.heap[w.heap.size]? = some (.cells #[.bool b4, .slice a4 n4 c4] 88 (0, 0)) := by rw [hg7.block _ (lt_of_block E0.out) (by simp)]; exact E0.out
   have k2 : W7.heap[w.heap.size + 1 + 1]? = some (.cells #[.bool false, .slice none 0 0, .bool false, .slice none 0 0] 90 (0, 0)) := by rw [hg7.block _ (lt_of_block E2.out) (by simp)]; exact E2.out
   have hn7 := (HN5.out.ext X6.out).grown (noInts2 E1.out) hg7
   have hd7 := HV6.out.grown (noInts2 E1.out) hg7
   have xx7 : Ext w W7 := by rw [hW7]; exact ext2 (XX5.out.trans X6.out) (by omega) _ _
   have HW7 := Lib.hid hW7
   clear hW7 hg7
   go_upto_region 7 with fail
   rw [← HW7.out]
   have D2 := Lib.hid k2
   have c0 := cell2_0 k0
   have c1 := cell2_1 k0
   have c2 := cell2_0 k1
   have c3 := cell2_1 k1
   have d0 := cell4_0 k2
   have d1 := cell4_1 k2
   have d2 := cell4_2 k2
   have d3 := cell4_3 k2
   have f0 := frozen_of_row _ _ 0 _ _ k2
   have f1 := frozen_of_row _ _ 1 _ _ k2
   have f2 := frozen_of_row _ _ 2 _ _ k2
   have f3 := frozen_of_row _ _ 3 _ _ k2
   have HN7 := Lib.hid hn7
   have HD7 := Lib.hid hd7
   have XX7 := Lib.hid xx7
   clear k0 k1 k2 hn7 hd7 xx7 g0 g1 g2 g3 HW7
   go_wp2_with fail
   refine ret_frac rfl rfl (blk4_set D2.out) rfl ⟨_, rfl, (frac_of rfl rfl HN7.out (d := z'.natAbs / G) (by rw [show ((z'.natAbs / G : Nat) : Int) = z' / G by rw [Int.natCast_ediv, show ((z'.natAbs : Nat) : Int) = z' by omega]]; exact HD7.out) HQ.out.1 HQ.out.2).grown (noInts4 D2.out) (grown4 _ _ _ _ _ _), ext4 XX7.out (by omega) _ _ _ _⟩
end Go.Proofs.YtldokelpolbnnaaGreatDoor
end
section
namespace Go.Proofs.YtldokelpolbnnaaGreatDoor
open Go.RowKit
def planB (ops : Array Oper) : List (Nat × Bool) → Array Bool → Bool
 | [], listed => (Region.ready .any ops listed).isEmpty
 | (i, true) :: rest, listed => (Region.ready .any ops listed).contains i && Region.free .any ops listed i && planB ops rest (listed.setIfInBounds i true)
 | (i, false) :: rest, listed => decide (Region.ready .any ops listed = [i]) && planB ops rest (listed.setIfInBounds i true)
def wpPlan (P : Program) (ops : Array Oper) (Q : Exit → Act → World → Prop) (S : World → Prop) : List (Nat × Bool) → Act → World → Prop
 | [], a, w => Q .normal a w
 | (i, true) :: rest, a, w => ∃ o v, ops[i]? = some o ∧ YieldsIf P ops S o v a ∧ wpPlan P ops Q S rest (a.put o.dst v) w
 | (i, false) :: rest, a, w => wpOp P ops (NoPanic Q) i (fun a' w' => S w' ∧ wpPlan P ops Q S rest a' w') a w
theorem wpAnyH_of_plan {P : Program} {ops : Array Oper} {Q : Exit → Act → World → Prop} {S : World → Prop} (hs : Region.noSelect ops = true) :
  ∀ (plan : List (Nat × Bool)) (listed : Array Bool) (a : Act) (w : World), planB ops plan listed = true → S w → wpPlan P ops Q S plan a w →
   wpAnyH P .any ops (NoPanic Q) S plan.length listed a w
 | [], listed, a, w, hB, _, h => wpAnyH_done (by simpa [planB] using hB) (NoPanic.normal h) _
 | (i, true) :: rest, listed, a, w, hB, hS, h => by
  simp only [planB, Bool.and_eq_true] at hB
  obtain ⟨o, v, ho, hy, hr⟩ := h
  exact wpAnyH_take ho hs hB.1.2 hB.1.1 (fun _ _ _ h => h) hy hS (wpAnyH_of_plan hs rest _ _ w hB.2 hS hr)
 | (i, false) :: rest, listed, a, w, hB, hS, h => by
  simp only [planB, Bool.and_eq_true, decide_eq_true_eq] at hB
  refine wpAnyH_all hB.1 (by simp) (fun j hj => ?_)
  obtain rfl : j = i := by simpa using hj
  exact wpOp_mono (fun a' w' ⟨h1, h2⟩ => ⟨h1, wpAnyH_of_plan hs rest _ a' w' hB.2 h1 h2⟩) h
theorem wp_region_plan {P : Program} {id : Nat} {l : List Oper} {Q : Exit → Act → World → Prop} {a : Act} {w : World} (plan : List (Nat × Bool)) (S : World → Prop)
  (hm : P.follows .mixedOrders = true) (hl : plan.length = l.length) (hs : Region.noSelect l.toArray = true) (hB : planB l.toArray plan (Array.replicate l.length false) = true)
  (hS : S w.drew) (h : wpPlan P l.toArray Q S plan a w.drew) : (Code.region id l.toArray true).wp P Q a w := by
 refine wp_region_noPanic (wp_region_held_drew (S := S) hm hS fun _ => ?_)
 have := wpAnyH_of_plan hs plan _ a w.drew hB hS h
 rw [hl] at this
 simpa using this
def nth : List Oper → Nat → Option Oper
 | [], _ => none
 | o :: _, 0 => some o
 | _ :: l, i + 1 => nth l i
theorem nth_eq (l : List Oper) (i : Nat) : nth l i = l.toArray[i]? := by
 rw [List.getElem?_toArray]
 induction l generalizing i with
 | nil => simp [nth]
 | cons o l ih => cases i <;> simp [nth, ih]
theorem plan_read {P : Program} {l : List Oper} {Q : Exit → Act → World → Prop} {S : World → Prop} {i : Nat} {rest : List (Nat × Bool)} {t : Array Value} {df : List Deferred} {w : World} {o : Oper} (d : Nat) (v : Value)
  (ho : nth l i = some o) (hd : o.dst = some d) (hg : o.guard = none) (hy : ∀ w, S w → (execOp (Act.eval ⟨t, df⟩) o).run P w = .ok (.value v) w) (h : wpPlan P l.toArray Q S rest ⟨t.setIfInBounds d v, df⟩ w) :
  wpPlan P l.toArray Q S ((i, true) :: rest) ⟨t, df⟩ w :=
 ⟨o, v, by rw [← nth_eq]; exact ho, Or.inl ⟨by simp [Region.wanted, hg], hy⟩, by rw [hd]; exact h⟩
theorem plan_op {P : Program} {l : List Oper} {Q : Exit → Act → World → Prop} {S : World → Prop} {i : Nat} {rest : List (Nat × Bool)} {a : Act} {w : World} {o : Oper}
  (ho : nth l i = some o) (hg : o.guard = none) (h : ∀ K : Act → World → Prop, (∀ a w, S w → wpPlan P l.toArray Q S rest a w → K a w) → o.wp P a w K (NoPanic Q)) :
  wpPlan P l.toArray Q S ((i, false) :: rest) a w := by
 show wpOp P l.toArray (NoPanic Q) i _ a w
 refine wpOp_step (by rw [← nth_eq]; exact ho) (fun K' hK => ?_)
 simp only [Region.wanted, hg, if_true]
 exact h K' (fun a w h1 h2 => hK a w ⟨h1, h2⟩)
theorem plan_nil {P : Program} {ops : Array Oper} {Q : Exit → Act → World → Prop} {S : World → Prop} {a : Act} {w : World} (h : Q .normal a w) : wpPlan P ops Q S [] a w := h
end Go.Proofs.YtldokelpolbnnaaGreatDoor
end
section
namespace Go.Proofs.YtldokelpolbnnaaGreatDoor
open Go.RowKit
def Sz (q : Rat) (k : Nat) : Prop := nl q.num.natAbs ≤ k ∧ nl q.den ≤ k
theorem mul_whole {q r : Rat} (h1 : q.den = 1) (h2 : r.den = 1) : ((q.num * r.num : Int) : Rat) = q * r := by
 rw [Rat.mul_def', h1, h2, Nat.one_mul, Rat.mkRat_one]
theorem mul_new (q r : Rat) : Rat.divInt (q.num * r.num) ((q.den : Int) * (r.den : Int)) = q * r := by
 rw [Rat.mul_def', ← Rat.divInt_ofNat, Int.natCast_mul]
theorem div_new (q r : Rat) : Rat.divInt (q.num * (r.den : Int)) ((q.den : Int) * r.num) = q / r := by
 rw [Rat.divInt_eq_div, Rat.intCast_mul, Rat.intCast_mul]
 have e1 : q = (q.num : Rat) / ((q.den : Int) : Rat) := by rw [← Rat.divInt_eq_div, Rat.num_divInt_den]
 have e2 : r = (r.num : Rat) / ((r.den : Int) : Rat) := by rw [← Rat.divInt_eq_div, Rat.num_divInt_den]
 have d1 : ((q.den : Int) : Rat) ≠ 0 := by have := q.den_nz; simp; exact this
 have d2 : ((r.den : Int) : Rat) ≠ 0 := by have := r.den_nz; simp; exact this
 by_cases h : (r.num : Rat) = 0
 ·have : r = 0 := by rw [e2, h]; simp [Rat.div_def]
  rw [h, this]; simp [Rat.div_def]
 ·generalize (q.num : Rat) = a at *
  generalize (r.num : Rat) = b at *
  generalize ((q.den : Int) : Rat) = c at *
  generalize ((r.den : Int) : Rat) = d at *
  rw [e1, e2]
  grind
theorem nl_mulZ {y z : Int} {k : Nat} (h1 : nl y.natAbs ≤ k) (h2 : nl z.natAbs ≤ k) : nl (y * z).natAbs ≤ 2 * k := by
 rw [Int.natAbs_mul]; have := nl_mul y.natAbs z.natAbs; omega
theorem block_of {w w' : World} {g k : Nat} {o : Obj} (h : w.grownBy w' (some g)) (hk : w.heap[k]? = some o) (hne : k ≠ g) : w'.heap[k]? = some o := by
 rw [h.block k (lt_of_block hk) (by simp; exact hne)]; exact hk
theorem exec_load_num (a : Act) (o : Oper) (x : Operand) (ho : o.op = .load 88 x) (g off : Nat) (hx : a.eval x = .pointer (some ⟨g, off, none⟩)) (W : World) (v0 v1 : Value)
  (h0 : W.cell? ⟨g, off, none⟩ = some v0) (h1 : W.cell? ⟨g, off + 1, none⟩ = some v1) : (execOp a.eval o).run Tryz.prog W = .ok (.value (.agg #[v0, v1])) W := by
 unfold execOp
 simp only [ho, hx]
 simp [go_sem, h0, h1]
set_option maxRecDepth 100000 in
set_option maxHeartbeats 1600000 in
theorem fracDiv_any (u v : Value) (q r : Rat) (w : World) (hu : FracV w u q) (hv : FracV w v r) (h1 : Sz q 1000000000000) (h2 : Sz r 1000000000000) (hr : r ≠ 0) :
  Calls Tryz.prog 63 #[u, v] w (RetFrac w (q / r)) := by
 have hnz : (q.den : Int) * r.num ≠ 0 := by
  have e1 : r.num ≠ 0 := fun e => hr (Rat.num_eq_zero.1 e)
  have e2 := q.den_nz
  exact Int.mul_ne_zero (by omega) e1
 have Hu := Lib.hid hu
 obtain ⟨a, n, c, a', n', c', rfl, _, _⟩ := hu
 obtain ⟨p, hp⟩ : ∃ p, p = decide (q.num < 0) := ⟨_, rfl⟩
 rw [← hp] at Hu ⊢
 clear hp
 have Hv := Lib.hid hv
 obtain ⟨a2, n2, c2, a2', n2', c2', rfl, _, _⟩ := hv
 obtain ⟨p2, hp2⟩ : ∃ p2, p2 = decide (r.num < 0) := ⟨_, rfl⟩
 rw [← hp2] at Hv ⊢
 clear hp2
 go_enter Tryz.func63, Tryz.ntmps63
 go_wp2_with fail
 have hb := box3 w (.cells #[.bool p, .slice a n c, .bool false, .slice a' n' c'] 90) (.cells #[.bool p2, .slice a2 n2 c2, .bool false, .slice a2' n2' c2'] 90) (.cells #[.bool false, .slice none 0 0, .bool false, .slice none 0 0] 90)
 generalize ((w.alloc (.cells #[.bool p, .slice a n c, .bool false, .slice a' n' c'] 90)).alloc (.cells #[.bool p2, .slice a2 n2 c2, .bool false, .slice a2' n2' c2'] 90)).alloc (.cells #[.bool false, .slice none 0 0, .bool false, .slice none 0 0] 90) = W at *
 obtain ⟨x0, b0, b1, b2⟩ := hb
 have X0 := Lib.hid x0
 have B0 := Lib.hid b0
 have B1 := Lib.hid b1
 have B2 := Lib.hid b2
 clear x0 b0 b1 b2
 have HNZ := Lib.hid hnz
 have H1 := Lib.hid h1
 have H2 := Lib.hid h2
 clear hr hnz h1 h2
 have S0 : W.drew.heap[w.heap.size]? = some (.cells #[.bool p, .slice a n c, .bool false, .slice a' n' c'] 90 (0, 0)) ∧ W.drew.heap[w.heap.size + 1]? = some (.cells #[.bool p2, .slice a2 n2 c2, .bool false, .slice a2' n2' c2'] 90 (0, 0)) := ⟨B0.out, B1.out⟩
 refine wp_region_plan [(0, true), (1, true), (2, true), (3, true), (5, true), (6, true), (7, true), (8, true), (4, false), (9, false), (10, false), (11, false)] (fun w' => w'.heap[w.heap.size]? = some (.cells #[.bool p, .slice a n c, .bool false, .slice a' n' c'] 90 (0, 0)) ∧ w'.heap[w.heap.size + 1]? = some (.cells #[.bool p2, .slice a2 n2 c2, .bool false, .slice a2' n2' c2'] 90 (0, 0))) (by kernel_rfl) rfl (by kernel_rfl) (by kernel_rfl) (S0) ?_
 refine plan_read 5 (.pointer (some ⟨w.heap.size, 0, none⟩)) rfl rfl rfl (fun W' _ => by kernel_rfl) ?_
 simp only [List.setIfInBounds_toArray, List.set_cons_zero, List.set_cons_succ]
 refine plan_read 6 (Value.agg #[Value.bool p, Value.slice a n c]) rfl rfl rfl (fun W' hS => exec_load_num _ _ _ rfl _ _ rfl W' _ _ (cell4_0 hS.1) (cell4_1 hS.1)) ?_
 simp only [List.setIfInBounds_toArray, List.set_cons_zero, List.set_cons_succ]
 refine plan_read 7 (.pointer (some ⟨w.heap.size + 1, 2, none⟩)) rfl rfl rfl (fun W' _ => by kernel_rfl) ?_
 simp only [List.setIfInBounds_toArray, List.set_cons_zero, List.set_cons_succ]
 refine plan_read 8 (Value.agg #[Value.bool false, Value.slice a2' n2' c2']) rfl rfl rfl (fun W' hS => exec_load_num _ _ _ rfl _ _ rfl W' _ _ (cell4_2 hS.2) (cell4_3 hS.2)) ?_
 simp only [List.setIfInBounds_toArray, List.set_cons_zero, List.set_cons_succ]
 refine plan_read 10 (.pointer (some ⟨w.heap.size, 2, none⟩)) rfl rfl rfl (fun W' _ => by kernel_rfl) ?_
 simp only [List.setIfInBounds_toArray, List.set_cons_zero, List.set_cons_succ]
 refine plan_read 11 (Value.agg #[Value.bool false, Value.slice a' n' c']) rfl rfl rfl (fun W' hS => exec_load_num _ _ _ rfl _ _ rfl W' _ _ (cell4_2 hS.1) (cell4_3 hS.1)) ?_
 simp only [List.setIfInBounds_toArray, List.set_cons_zero, List.set_cons_succ]
 refine plan_read 12 (.pointer (some ⟨w.heap.size + 1, 0, none⟩)) rfl rfl rfl (fun W' _ => by kernel_rfl) ?_
 simp only [List.setIfInBounds_toArray, List.set_cons_zero, List.set_cons_succ]
 refine plan_read 13 (Value.agg #[Value.bool p2, Value.slice a2 n2 c2]) rfl rfl rfl (fun W' hS => exec_load_num _ _ _ rfl _ _ rfl W' _ _ (cell4_0 hS.2) (cell4_1 hS.2)) ?_
 simp only [List.setIfInBounds_toArray, List.set_cons_zero, List.set_cons_succ]
 refine plan_op rfl rfl (fun K hK => ?_)
 have HK := Lib.hid hK
 clear hK
 go_simp
 refine (numMul_any _ _ q.num (r.den : Int) _ (Hu.out.num.ext (X0.out.trans (Ext.refl _).drew)) (Hv.out.den.ext (X0.out.trans (Ext.refl _).drew)) (Nat.le_trans H1.out.1 (by omega)) (by rw [Int.natAbs_natCast]; exact Nat.le_trans H2.out.2 (by omega))).mono ?_
 rintro e w1 ⟨v1, rfl, hv1, hx1⟩
 have S1 := And.intro (hx1.block S0.1) (hx1.block S0.2)
 have HV1 := Lib.hid hv1
 have HX1 := Lib.hid hx1
 clear hv1 hx1
 refine HK.out _ _ S1 ?_
 clear HK K
 refine plan_op rfl rfl (fun K hK => ?_)
 have HK := Lib.hid hK
 clear hK
 go_simp
 refine (numMul_any _ _ (q.den : Int) r.num _ (Hu.out.den.ext ((X0.out.trans (Ext.refl _).drew).trans HX1.out)) (Hv.out.num.ext ((X0.out.trans (Ext.refl _).drew).trans HX1.out)) (by rw [Int.natAbs_natCast]; exact Nat.le_trans H1.out.2 (by omega)) (Nat.le_trans H2.out.1 (by omega))).mono ?_
 rintro e w2 ⟨v2, rfl, hv2, hx2⟩
 have S2 := And.intro (hx2.block S1.1) (hx2.block S1.2)
 have HV2 := Lib.hid hv2
 have HX2 := Lib.hid hx2
 clear hv2 hx2 S1
 refine HK.out _ _ S2 ?_
 clear HK K
 refine plan_op rfl rfl (fun K hK => ?_)
 have HK := Lib.hid hK
 clear hK
 go_simp
 refine (fracNew_any _ _ _ _ _ (HV1.out.ext HX2.out) HV2.out (by have := nl_mulZ (k := 1000000000000) (H1.out.1) (by rw [Int.natAbs_natCast]; exact H2.out.2); omega) (by have := nl_mulZ (k := 1000000000000) (by rw [Int.natAbs_natCast]; exact H1.out.2) (H2.out.1); omega) HNZ.out).mono ?_
 rintro e w3 ⟨v3, rfl, hv3, hx3⟩
 obtain ⟨b3, a3, n3, c3, b3', a3', n3', c3', rfl, hr3⟩ := hv3.opn
 have S3 := And.intro (hx3.block S2.1) (hx3.block S2.2)
 have HR := Lib.hid hr3
 have XF := Lib.hid ((Ext.refl W).drew.trans (HX1.out.trans (HX2.out.trans hx3)))
 clear hv3 hr3 hx3 S2
 refine HK.out _ _ S3 ?_
 have BB := Lib.hid (XF.out.block B2.out)
 have d0 := cell4_0 BB.out
 have d1 := cell4_1 BB.out
 have d2 := cell4_2 BB.out
 have d3 := cell4_3 BB.out
 have f0 := frozen_of_row _ _ 0 _ _ BB.out
 have f1 := frozen_of_row _ _ 1 _ _ BB.out
 have f2 := frozen_of_row _ _ 2 _ _ BB.out
 have f3 := frozen_of_row _ _ 3 _ _ BB.out
 clear HK K
 refine plan_op rfl rfl (fun K hK => ?_)
 have HK := Lib.hid hK
 clear hK
 go_simp
 refine HK.out _ _ ⟨block_of (grown4 _ _ _ _ _ _) S3.1 (by omega), block_of (grown4 _ _ _ _ _ _) S3.2 (by omega)⟩ ?_
 clear HK K
 refine plan_nil ?_
 go_wp2_with fail
 refine ret_frac rfl rfl (blk4_set BB.out) rfl ⟨_, rfl, ?_, ext4 (X0.out.trans XF.out) (by omega) _ _ _ _⟩
 rw [← div_new q r]
 exact HR.out.grown (noInts4 BB.out) (grown4 _ _ _ _ _ _)
end Go.Proofs.YtldokelpolbnnaaGreatDoor
end
