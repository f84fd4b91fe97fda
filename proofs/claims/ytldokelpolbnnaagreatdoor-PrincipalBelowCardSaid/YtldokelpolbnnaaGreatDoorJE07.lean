/- Joined out of parts of one proof by a program: contracts of the functions that the statement reaches, and the plain facts behind them. -/
import Derived.Test.YtldokelpolbnnaaGreatDoorJE06
import Derived.Lib.AtoiErrMem
import Derived.Lib.ConvBytes
set_option linter.unusedVariables false
set_option linter.unusedSimpArgs false
set_option linter.unusedSectionVars false
section
set_option linter.unusedVariables false
namespace Go.Proofs.YtldokelpolbnnaaGreatDoor
open Go.Shelf Go.RowKit Go.Sort Go.Lib
set_option maxRecDepth 100000 in
theorem formatUintS_any (u : Nat) (hu64 : u < 18446744073709551616) (w : World) (htab : Lib.TabIs Tryz.prog w "internal/strconv.uint64pow10" .u64 Lib.pow10Tab) :
  Calls Tryz.prog 152 #[.int .u64 u, .int .i64 10] w fun e w' => e = .returned (.string ⟨(Lib.decDigits u).toArray⟩) ∧ Ext w w' := by
 go_enter Tryz.func152, Tryz.ntmps152
 go_wp2_with fail
 refine (formatUint_any u hu64 _ htab).mono ?_
 rintro e w' ⟨rfl, hx⟩
 go_wp2_with fail
 go_ret
 exact ⟨rfl, hx⟩
def StrRel (W0 : World) (B : Nat) (neg : Bool) (n : Nat) (i : Value) (wr : World) : Prop :=
 ∃ k : Nat, k ≤ (limbs n).length ∧ i = .int .i64 ((k : Int) - 1) ∧ IsBuilder 193 5 B B (byteCells (textTo neg n k)) wr ∧ Below B W0 wr
theorem byteCells_append (l l' : List UInt8) : byteCells l ++ byteCells l' = byteCells (l ++ l') := by simp [byteCells]
set_option maxRecDepth 100000 in
set_option maxHeartbeats 400000 in
theorem numString_any (v : Value) (z : Int) (w : World) (hv : NumV w v z) (hs : nl z.natAbs ≤ 100000000000) (htab : Lib.TabIs Tryz.prog w "internal/strconv.uint64pow10" .u64 Lib.pow10Tab) :
  Calls Tryz.prog 153 #[v] w fun e w' => e = .returned (.string ⟨(Lib.itoa z).toArray⟩) ∧ Ext w w' := by
 obtain ⟨a, n, c, rfl, hn⟩ := hv
 obtain ⟨a', c', e, hcap, hrow⟩ := hn
 simp only [Value.slice.injEq] at e
 obtain ⟨rfl, rfl, rfl⟩ := e
 have hlen : (limbs z.natAbs).length ≤ 100000000000 := hs
 by_cases hz : z = 0
 ·subst hz
  rw [show (limbs (0 : Int).natAbs).length = 0 by rw [show (0 : Int).natAbs = 0 from rfl, limbs_zero]; rfl]
  clear hrow hcap hlen
  go_enter Tryz.func153, Tryz.ntmps153
  go_wp2_with fail
  go_ret
  exact ⟨by rw [itoa_zero]; rfl, Ext.alloc (Ext.refl w) _⟩
 ·have hp : 0 < (limbs z.natAbs).length := len_pos.2 (by omega)
  obtain ⟨L, hL⟩ : ∃ L, L = (limbs z.natAbs).length := ⟨_, rfl⟩
  rw [← hL] at hp hlen ⊢
  have HL := Lib.hid hL
  have HROW := Lib.hid hrow
  have HTAB := Lib.hid htab
  clear hL hrow htab hcap
  obtain ⟨neg, hneg⟩ : ∃ neg, neg = decide (z < 0) := ⟨_, rfl⟩
  rw [← hneg]
  have HNEG := Lib.hid hneg
  clear hneg
  obtain ⟨w1, hw1⟩ : ∃ w1, w1 = w.alloc (Obj.cells #[Value.bool neg, Value.slice a L c] 88) := ⟨_, rfl⟩
  have hs1 : w1.heap.size = w.heap.size + 1 := by rw [hw1]; exact size_alloc' _ _
  have HX1 : RowKit.Hid (Ext w w1) := Lib.hid (by rw [hw1]; exact Ext.alloc (Ext.refl w) _)
  have HB0 := Lib.hid (Lib.fresh_isBuilder 193 5 w1)
  have HW1 := Lib.hid hw1
  have HS1 := Lib.hid hs1
  clear hw1 hs1
  cases neg
  ·go_enter Tryz.func153, Tryz.ntmps153
   go_wp2_with fail
   rw [← HW1.out, ← HS1.out, show ((L : Int) == 0) = false by rw [beq_eq_false_iff_ne]; omega]
   go_loopw [4] (StrRel (w1.alloc (Obj.cells #[Value.pointer none, Value.slice none 0 0] 193)) w1.heap.size false z.natAbs) (fun i _ => (RowKit.intOf i + 1).toNat)
   case atStart => exact ⟨(limbs z.natAbs).length, Nat.le_refl _, by rw [← HL.out], by rw [textTo_len]; exact HB0.out, Below.refl _ _⟩
   case round =>
    obtain ⟨k, hk, rfl, hbd, hbel⟩ := hrel
    have hsz0 := hbel.size
    rw [size_alloc'] at hsz0
    have HXW : RowKit.Hid (Ext w wr) := Lib.hid (Ext.trans HX1.out (Below.trans (Ext.alloc (Ext.refl w1) (Obj.cells #[Value.pointer none, Value.slice none 0 0] 193)) hbel))
    rcases k with _ | k
    ·have hne : textTo false z.natAbs 0 ≠ [] := by rw [HNEG.out, textTo_end z hz, itoa_signed, signed]; split; simp; exact dec_ne_nil _
     have HBD := Lib.hid hbd
     clear hbd
     go_wp2_with fail
     refine (Tryz.Builder_String w1.heap.size w1.heap.size (textTo false z.natAbs 0) wr HBD.out hne).mono ?_
     rintro e w2 ⟨rfl, hb2⟩
     go_wp2_with fail
     go_ret
     refine ⟨?_, Below.trans HXW.out ?_⟩
     ·rw [HNEG.out, textTo_end z hz]; rfl
     ·exact Below.mono hb2 (by have := HS1.out; omega)
    ·have hsz1 : w.heap.size < w1.heap.size := by rw [HS1.out]; omega
     have hc1 : wr.cell? ⟨w.heap.size, 1, none⟩ = some (.slice a L c) := by
      rw [Below.cell hbel hsz1, Below.cell (Ext.alloc (Ext.refl w1) _) hsz1, HW1.out, World.cell?_alloc_new]; rfl
     obtain ⟨ba, offa, rfl, hca⟩ := HROW.out.at (j := k) (by omega)
     have hcb := HXW.out.cell hca
     clear hca
     have hlow : (limbs z.natAbs).getD k 0 < 1000000000 := (low_limbs _).getD k
     obtain ⟨x, hx⟩ : ∃ x, x = (limbs z.natAbs).getD k 0 := ⟨_, rfl⟩
     rw [← hx] at hcb hlow
     have XX := Lib.hid hx
     have HBD := Lib.hid hbd
     have HBEL := Lib.hid hbel
     have HK := Lib.hid hk
     clear hx hbd hbel hk hsz1
     rw [show ((k + 1 : Nat) : Int) - 1 = k by omega]
     have hkL : k < L := by have := HK.out; have := HL.out; omega
     have hsw : (textTo false z.natAbs (k + 1)).length ≤ 1 + 9 * L + 1 := by have := textTo_size false z.natAbs (k + 1); rw [← HL.out] at this; exact this
     have hd9 := nDigits_le9 hlow
     have hdl := decDigits_length x
     have HSW := Lib.hid hsw
     have HDL := Lib.hid hdl
     have HD9 := Lib.hid hd9
     clear hsw hdl hd9
     by_cases htop : k + 1 = L
     ·have hkt : ¬ ((k : Int) < (L : Int) - 1) := by omega
      have HTOP := Lib.hid htop
      clear htop
      go_wp2_with fail
      refine (formatUintS_any x (by omega) _ (tabIs_ext HTAB.out HXW.out)).mono ?_
      rintro e w2 ⟨rfl, hx2⟩
      have HX2 := Lib.hid hx2
      clear hx2
      have hc2 := HX2.out.cell hc1
      clear hc1 hcb
      go_wp2_with fail
      refine (writeString_any w1.heap.size w1.heap.size (byteCells (textTo false z.natAbs (k + 1))) ⟨(decDigits x).toArray⟩ w2 (isBuilder_ext HBD.out HX2.out) (by rw [byteCells_length, Lib.size_mk, HDL.out]; have := HSW.out; have := HD9.out; omega) (by have := HX2.out.size; omega)).mono ?_
      rintro e w3 ⟨rfl, hb3, hbel3⟩
      have htx := textTo_top (neg := false) (n := z.natAbs) (k := k) (by rw [← HL.out]; exact HTOP.out)
      rw [← XX.out] at htx
      rw [strCells_toArray, byteCells_append, ← htx] at hb3
      go_wp2_with fail
      refine ⟨⟨k, by rw [← HL.out]; omega, by go_num, .inr hb3, Below.trans HBEL.out (Below.trans (Below.mono HX2.out (by omega)) hbel3)⟩, by simp only [RowKit.intOf]; omega⟩
     ·have hkt : (k : Int) < (L : Int) - 1 := by omega
      have HTOP := Lib.hid htop
      clear htop
      go_wp2_with fail
      refine (formatUintS_any x (by omega) _ (tabIs_ext HTAB.out HXW.out)).mono ?_
      rintro e w2 ⟨rfl, hx2⟩
      have HX2 := Lib.hid hx2
      clear hx2
      have hc2 := HX2.out.cell hc1
      clear hc1 hcb
      have hsl : (⟨(decDigits x).toArray⟩ : ByteArray).size = nDigits x := by rw [Lib.size_mk]; exact HDL.out
      go_wp2_with fail
      rw [show wrap64 (9 - (nDigits x : Int)) = ((9 - nDigits x : Nat) : Int) by have := HD9.out; unfold wrap64; omega]
      have hrep := Tryz.strings_Repeat ⟨#[48]⟩ (9 - nDigits x) w2 (by omega) (by have := HD9.out; simp [ByteArray.size]; omega)
      refine hrep.mono ?_
      rintro e w4 ⟨rfl, hx4⟩
      have HX4 : RowKit.Hid (Ext w2 w4) := Lib.hid hx4
      clear hx4 hrep
      go_wp2_with fail
      refine (writeString_any w1.heap.size w1.heap.size (byteCells (textTo false z.natAbs (k + 1))) ⟨(repeatL [48] (9 - nDigits x)).toArray⟩ w4 (isBuilder_ext (isBuilder_ext HBD.out HX2.out) HX4.out) (by rw [byteCells_length, Lib.size_mk, repeatL_zero, List.length_replicate]; have := HSW.out; omega) (by have := HX2.out.size; have := HX4.out.size; omega)).mono ?_
      rintro e w5 ⟨rfl, hb5, hbel5⟩
      rw [strCells_toArray, byteCells_append] at hb5
      go_wp2_with fail
      refine (writeString_any w1.heap.size w1.heap.size _ ⟨(decDigits x).toArray⟩ w5 (.inr hb5) (by rw [byteCells_length, Lib.size_mk, HDL.out, List.length_append, repeatL_zero, List.length_replicate]; have := HSW.out; have := HD9.out; omega) (by have := HX2.out.size; have := HX4.out.size; have := hbel5.size; omega)).mono ?_
      rintro e w3 ⟨rfl, hb3, hbel3⟩
      have htx := textTo_low (neg := false) (n := z.natAbs) (k := k) (by rw [← HL.out]; have := HTOP.out; omega)
      rw [← XX.out] at htx
      rw [strCells_toArray, byteCells_append, List.append_assoc, ← htx] at hb3
      have h6 := HX2.out.size
      go_wp2_with fail
      refine ⟨⟨k, by rw [← HL.out]; omega, by go_num, .inr hb3, Below.trans HBEL.out (Below.trans (Below.mono HX2.out (by omega)) (Below.trans (Below.mono HX4.out (by omega)) (Below.trans hbel5 hbel3)))⟩, by simp only [RowKit.intOf]; omega⟩
  ·go_enter Tryz.func153, Tryz.ntmps153
   go_wp2_with fail
   rw [← HW1.out, ← HS1.out, show ((L : Int) == 0) = false by rw [beq_eq_false_iff_ne]; omega]
   refine (writeString_any w1.heap.size w1.heap.size [] ⟨#[45]⟩ _ HB0.out (by simp [ByteArray.size]) (by rw [size_alloc']; omega)).mono ?_
   rintro e w4 ⟨rfl, hb4, hbel4⟩
   have HB4 : RowKit.Hid (BuilderAt 193 5 w1.heap.size w1.heap.size (.pointer (some ⟨w1.heap.size, 0, none⟩)) (byteCells [45]) w4) := Lib.hid hb4
   have HBEL4 := Lib.hid hbel4
   have hs4 := hbel4.size
   rw [size_alloc'] at hs4
   have hc0 : w4.cell? ⟨w.heap.size, 1, none⟩ = some (.slice a L c) := by
    have hsz1 : w.heap.size < w1.heap.size := by rw [HS1.out]; omega
    rw [Below.cell hbel4 hsz1, Below.cell (Ext.alloc (Ext.refl w1) _) hsz1, HW1.out, World.cell?_alloc_new]; rfl
   clear hb4 hbel4
   go_wp2_with fail
   go_loopw [4] (StrRel (w1.alloc (Obj.cells #[Value.pointer none, Value.slice none 0 0] 193)) w1.heap.size true z.natAbs) (fun i _ => (RowKit.intOf i + 1).toNat)
   case atStart => exact ⟨(limbs z.natAbs).length, Nat.le_refl _, by rw [← HL.out], by rw [textTo_len]; exact .inr HB4.out, HBEL4.out⟩
   case round =>
    obtain ⟨k, hk, rfl, hbd, hbel⟩ := hrel
    have hsz0 := hbel.size
    rw [size_alloc'] at hsz0
    have HXW : RowKit.Hid (Ext w wr) := Lib.hid (Ext.trans HX1.out (Below.trans (Ext.alloc (Ext.refl w1) (Obj.cells #[Value.pointer none, Value.slice none 0 0] 193)) hbel))
    rcases k with _ | k
    ·have hne : textTo true z.natAbs 0 ≠ [] := by rw [HNEG.out, textTo_end z hz, itoa_signed, signed]; split; simp; exact dec_ne_nil _
     have HBD := Lib.hid hbd
     clear hbd
     go_wp2_with fail
     refine (Tryz.Builder_String w1.heap.size w1.heap.size (textTo true z.natAbs 0) wr HBD.out hne).mono ?_
     rintro e w2 ⟨rfl, hb2⟩
     go_wp2_with fail
     go_ret
     refine ⟨?_, Below.trans HXW.out ?_⟩
     ·rw [HNEG.out, textTo_end z hz]; rfl
     ·exact Below.mono hb2 (by have := HS1.out; omega)
    ·have hsz1 : w.heap.size < w1.heap.size := by rw [HS1.out]; omega
     have hc1 : wr.cell? ⟨w.heap.size, 1, none⟩ = some (.slice a L c) := by
      rw [Below.cell hbel hsz1, Below.cell (Ext.alloc (Ext.refl w1) _) hsz1, HW1.out, World.cell?_alloc_new]; rfl
     obtain ⟨ba, offa, rfl, hca⟩ := HROW.out.at (j := k) (by omega)
     have hcb := HXW.out.cell hca
     clear hca
     have hlow : (limbs z.natAbs).getD k 0 < 1000000000 := (low_limbs _).getD k
     obtain ⟨x, hx⟩ : ∃ x, x = (limbs z.natAbs).getD k 0 := ⟨_, rfl⟩
     rw [← hx] at hcb hlow
     have XX := Lib.hid hx
     have HBD := Lib.hid hbd
     have HBEL := Lib.hid hbel
     have HK := Lib.hid hk
     clear hx hbd hbel hk hsz1
     rw [show ((k + 1 : Nat) : Int) - 1 = k by omega]
     have hkL : k < L := by have := HK.out; have := HL.out; omega
     have hsw : (textTo true z.natAbs (k + 1)).length ≤ 1 + 9 * L + 1 := by have := textTo_size true z.natAbs (k + 1); rw [← HL.out] at this; exact this
     have hd9 := nDigits_le9 hlow
     have hdl := decDigits_length x
     have HSW := Lib.hid hsw
     have HDL := Lib.hid hdl
     have HD9 := Lib.hid hd9
     clear hsw hdl hd9
     by_cases htop : k + 1 = L
     ·have hkt : ¬ ((k : Int) < (L : Int) - 1) := by omega
      have HTOP := Lib.hid htop
      clear htop
      go_wp2_with fail
      refine (formatUintS_any x (by omega) _ (tabIs_ext HTAB.out HXW.out)).mono ?_
      rintro e w2 ⟨rfl, hx2⟩
      have HX2 := Lib.hid hx2
      clear hx2
      have hc2 := HX2.out.cell hc1
      clear hc1 hcb
      go_wp2_with fail
      refine (writeString_any w1.heap.size w1.heap.size (byteCells (textTo true z.natAbs (k + 1))) ⟨(decDigits x).toArray⟩ w2 (isBuilder_ext HBD.out HX2.out) (by rw [byteCells_length, Lib.size_mk, HDL.out]; have := HSW.out; have := HD9.out; omega) (by have := HX2.out.size; omega)).mono ?_
      rintro e w3 ⟨rfl, hb3, hbel3⟩
      have htx := textTo_top (neg := true) (n := z.natAbs) (k := k) (by rw [← HL.out]; exact HTOP.out)
      rw [← XX.out] at htx
      rw [strCells_toArray, byteCells_append, ← htx] at hb3
      go_wp2_with fail
      refine ⟨⟨k, by rw [← HL.out]; omega, by go_num, .inr hb3, Below.trans HBEL.out (Below.trans (Below.mono HX2.out (by omega)) hbel3)⟩, by simp only [RowKit.intOf]; omega⟩
     ·have hkt : (k : Int) < (L : Int) - 1 := by omega
      have HTOP := Lib.hid htop
      clear htop
      go_wp2_with fail
      refine (formatUintS_any x (by omega) _ (tabIs_ext HTAB.out HXW.out)).mono ?_
      rintro e w2 ⟨rfl, hx2⟩
      have HX2 := Lib.hid hx2
      clear hx2
      have hc2 := HX2.out.cell hc1
      clear hc1 hcb
      have hsl : (⟨(decDigits x).toArray⟩ : ByteArray).size = nDigits x := by rw [Lib.size_mk]; exact HDL.out
      go_wp2_with fail
      rw [show wrap64 (9 - (nDigits x : Int)) = ((9 - nDigits x : Nat) : Int) by have := HD9.out; unfold wrap64; omega]
      have hrep := Tryz.strings_Repeat ⟨#[48]⟩ (9 - nDigits x) w2 (by omega) (by have := HD9.out; simp [ByteArray.size]; omega)
      refine hrep.mono ?_
      rintro e w4 ⟨rfl, hx4⟩
      have HX4 : RowKit.Hid (Ext w2 w4) := Lib.hid hx4
      clear hx4 hrep
      go_wp2_with fail
      refine (writeString_any w1.heap.size w1.heap.size (byteCells (textTo true z.natAbs (k + 1))) ⟨(repeatL [48] (9 - nDigits x)).toArray⟩ w4 (isBuilder_ext (isBuilder_ext HBD.out HX2.out) HX4.out) (by rw [byteCells_length, Lib.size_mk, repeatL_zero, List.length_replicate]; have := HSW.out; omega) (by have := HX2.out.size; have := HX4.out.size; omega)).mono ?_
      rintro e w5 ⟨rfl, hb5, hbel5⟩
      rw [strCells_toArray, byteCells_append] at hb5
      go_wp2_with fail
      refine (writeString_any w1.heap.size w1.heap.size _ ⟨(decDigits x).toArray⟩ w5 (.inr hb5) (by rw [byteCells_length, Lib.size_mk, HDL.out, List.length_append, repeatL_zero, List.length_replicate]; have := HSW.out; have := HD9.out; omega) (by have := HX2.out.size; have := HX4.out.size; have := hbel5.size; omega)).mono ?_
      rintro e w3 ⟨rfl, hb3, hbel3⟩
      have htx := textTo_low (neg := true) (n := z.natAbs) (k := k) (by rw [← HL.out]; have := HTOP.out; omega)
      rw [← XX.out] at htx
      rw [strCells_toArray, byteCells_append, List.append_assoc, ← htx] at hb3
      have h6 := HX2.out.size
      go_wp2_with fail
      refine ⟨⟨k, by rw [← HL.out]; omega, by go_num, .inr hb3, Below.trans HBEL.out (Below.trans (Below.mono HX2.out (by omega)) (Below.trans (Below.mono HX4.out (by omega)) (Below.trans hbel5 hbel3)))⟩, by simp only [RowKit.intOf]; omega⟩
end Go.Proofs.YtldokelpolbnnaaGreatDoor
end
section
set_option linter.unusedVariables false
namespace Go.Proofs.YtldokelpolbnnaaGreatDoor
open Go.Shelf Go.RowKit Go.Sort Go.Lib
theorem parseM_ok {l : List UInt8} (hd : IsDig l) : ∀ (acc : Nat), rdA acc l < 1000000000000000000 → parseUintM 18446744073709551615 acc l = .ok (rdA acc l) := by
 induction l with
 | nil => intro acc _; rfl
 | cons b l ih =>
  intro acc h
  have hb := hd b (by simp)
  have e1 : rdA acc (b :: l) = rdA (10 * acc + (b.toNat - 48)) l := rfl
  rw [e1] at h ⊢
  have h2 : 10 * acc + (b.toNat - 48) ≤ rdA (10 * acc + (b.toNat - 48)) l := by
   rw [rdA_eq]
   have : 1 ≤ 10 ^ l.length := Nat.one_le_pow _ _ (by omega)
   have := Nat.mul_le_mul_left (10 * acc + (b.toNat - 48)) this
   omega
  have ih' := ih (fun x hx => hd x (by simp [hx])) (10 * acc + (b.toNat - 48)) h
  rw [parseUintM, if_pos hb, if_neg (by omega)]
  rw [show 10 * acc + (b.toNat - 48) = acc * 10 + (b.toNat - 48) by omega] at ih' h h2 ⊢
  first
   | (rw [if_neg (by omega)]; exact ih')
   | (simp only []; rw [if_neg (by omega)]; exact ih')
theorem parseB_ok {l : List UInt8} (hd : IsDig l) (hl : l ≠ []) (h9 : l.length ≤ 9) : parseUintB 64 l = .ok (rd l) := by
 rw [parseUintB, if_neg hl]
 refine parseM_ok hd 0 ?_
 have h1 := rd_lt hd
 have h2 : 10 ^ l.length ≤ 10 ^ 9 := Nat.pow_le_pow_right (by omega) h9
 have h3 : rdA 0 l = rd l := rfl
 omega
theorem trimPrefix_signed {neg : Bool} {l : List UInt8} (hd : IsDig l) (hl : l ≠ []) : trimPrefix (signed neg l) [45] = l ∧ hasPrefix (signed neg l) [45] = neg := by
 cases neg
 ·cases l with
  | nil => exact absurd rfl hl
  | cons b l =>
   have hb := hd b (by simp)
   have : ¬ (45 : UInt8) = b := by rintro rfl; simp at hb
   simp [signed, trimPrefix, hasPrefix, List.isPrefixOf, this]
 ·simp [signed, trimPrefix, hasPrefix, List.isPrefixOf]
theorem row_of_owns {w : World} {B : Nat} {e : TypeId} {a : Option Addr} {n c : Nat} {xs : List Value} (h : w.ownsRow B e 1 (.slice a n c) n xs) (hn : xs.length = n) : Row w a xs := by
 intro j hj
 rcases h.2 with ⟨h1, h2⟩ | ⟨g, cap, cur, h1, h2⟩
 ·omega
 ·simp only [Value.slice.injEq] at h1
  obtain ⟨rfl, _, rfl⟩ := h1
  refine ⟨g, 0, rfl, ?_⟩
  have := h.cells (g := g) rfl j (xs.getD j (.bool false)) (by rw [List.getD_eq_getElem?_getD, List.getElem?_eq_getElem hj]; rfl)
  rw [Lib.add_plain] at this; exact this
theorem ext_bytesWorld (w : World) (e : TypeId) (s : ByteArray) : Ext w (bytesWorld w e s) := bytesWorld_below w e s
def ReadRel (W0 : World) (B : Nat) (l : List UInt8) (v i : Value) (wr : World) : Prop :=
 ∃ (e : Int) (ys : List Nat), e ≤ l.length ∧ i = .int .i64 e ∧ -9 < e ∧ ys.length + e.toNat ≤ l.length ∧ ReadSt (rd l) (l.take e.toNat) ys ∧ wr.ownsRow B 162 1 v ys.length (u64s ys) ∧ Below B W0 wr
theorem u64_info : (Tryz.prog.info? 162).map (fun i => (i.zero, i.size, i.bytes)) = some (some (.int .u64 0), 1, 8) := by kernel_rfl
set_option maxRecDepth 100000 in
set_option maxHeartbeats 400000 in
theorem numRead_any (neg : Bool) (l : List UInt8) (w : World) (hd : IsDig l) (hl : l ≠ []) (hlen : l.length ≤ 1000000000) :
  Calls Tryz.prog 84 #[.string ⟨(signed neg l).toArray⟩] w (RetNum w (sgnd neg (rd l))) := by
 obtain ⟨i0, hi, hz0, hz1, hz2⟩ := info_parts u64_info
 obtain ⟨ht1, ht2⟩ := trimPrefix_signed (neg := neg) hd hl
 have HD := Lib.hid hd
 have HL := Lib.hid hl
 clear hd hl
 obtain ⟨w1, hw1⟩ : ∃ w1, w1 = w.alloc (Obj.cells #[Value.bool false, Value.slice none 0 0] 88) := ⟨_, rfl⟩
 have hs1 : w1.heap.size = w.heap.size + 1 := by rw [hw1]; exact size_alloc' _ _
 have HW1 := Lib.hid hw1
 have HS1 := Lib.hid hs1
 clear hw1 hs1
 go_enter Tryz.func84, Tryz.ntmps84
 go_wp2_with fail
 rw [← HW1.out]
 refine (Tryz.strings_CutPrefix ⟨(signed neg l).toArray⟩ ⟨#[45]⟩ w1).mono ?_
 rintro e w2 ⟨rfl, rfl⟩
 rw [show trimPrefix (⟨(signed neg l).toArray⟩ : ByteArray).data.toList (⟨#[45]⟩ : ByteArray).data.toList = l from ht1, show hasPrefix (⟨(signed neg l).toArray⟩ : ByteArray).data.toList (⟨#[45]⟩ : ByteArray).data.toList = neg from ht2]
 clear ht1 ht2
 go_wp2_with fail
 go_loopw [5, 6] (ReadRel w2 w2.heap.size l) (fun _ i _ => (RowKit.intOf i + 9).toNat)
 case atStart => exact ⟨l.length, [], by omega, by simp, by omega, by simp, ⟨Low.nil, by simpa using HD.out, by simp [val]⟩, ⟨rfl, .inl ⟨rfl, rfl⟩⟩, Below.refl _ _⟩
 case round =>
  obtain ⟨e, ys, he, rfl, he9, hle, hst, hown, hbel⟩ := hrel
  obtain ⟨a, n, c, rfl⟩ : ∃ a n c, u5 = .slice a n c := by
   rcases hown.2 with ⟨h1, h2⟩ | ⟨g, cap, cur, h1, h2⟩
   ·exact ⟨_, _, _, h1⟩
   ·exact ⟨_, _, _, h1⟩
  have HST := Lib.hid hst
  have HOWN := Lib.hid hown
  have HBEL := Lib.hid hbel
  have hsz := hbel.size
  clear hst hown hbel
  by_cases h0 : 0 < e
  ·obtain ⟨E, rfl⟩ : ∃ E : Nat, e = E := ⟨e.toNat, by omega⟩
   have hEl : E ≤ l.length := by omega
   have hE0 : 0 < E := by omega
   have hmx : max (0 : Int) ((E : Int) - 9) = ((E - 9 : Nat) : Int) := by omega
   have hsl : ∀ W, (Instr.sliceAt 9 (.string ⟨l.toArray⟩) (some (.int .i64 ((E - 9 : Nat) : Int))) (some (.int .i64 (E : Int))) none).run Tryz.prog W = .ok (.string ⟨((l.take E).drop (E - 9)).toArray⟩) W := by
    intro W
    have h1 : (0 : Int) ≤ ((E - 9 : Nat) : Int) ∧ ((E - 9 : Nat) : Int) ≤ (E : Int) := by omega
    have h2 : (0 : Int) ≤ (E : Int) ∧ (E : Int) ≤ (⟨l.toArray⟩ : ByteArray).size := by rw [Lib.size_mk]; omega
    have h3 : (⟨l.toArray⟩ : ByteArray).extract (E - 9) E = ⟨((l.take E).drop (E - 9)).toArray⟩ := by
     rw [Lib.extract_mk, List.drop_take]
    simp only [Instr.sliceAt, Sem.run_bind, run_underlying Tryz.underlying9, Result.andThen_ok, Instr.slice, Instr.sliceBounds, Instr.sliceBound, asIntOf, Sem.run_pure, if_true, Option.isSome, Sem.run_ite, h1, h2, and_self, Int.toNat_natCast]
    simp [h3]
   have hdd : IsDig ((l.take E).drop (E - 9)) := (HD.out.take E).drop (E - 9)
   have hl9 : ((l.take E).drop (E - 9)).length ≤ 9 := by simp; omega
   have hne : (l.take E).drop (E - 9) ≠ [] := by intro h; have := congrArg List.length h; simp at this; omega
   have hrd := rd_lt hdd
   have hr9 : rd ((l.take E).drop (E - 9)) < 1000000000 := Nat.lt_of_lt_of_le hrd (by rw [show (1000000000 : Nat) = 10 ^ 9 from rfl]; exact Nat.pow_le_pow_right (by omega) hl9)
   have hstep := HST.out.step
   rw [show (l.take ((E : Int)).toNat) = l.take E from rfl, List.length_take, Nat.min_eq_left hEl] at hstep
   have hpu := Tryz.strconv_ParseUint_10_at64_ok ⟨((l.take E).drop (E - 9)).toArray⟩ (by rw [Lib.size_mk]; omega) (rd ((l.take E).drop (E - 9))) (parseB_ok hdd hne hl9) wr
   have HPU := Lib.hid hpu
   have HSTEP := Lib.hid hstep
   clear hpu hstep hrd hdd hne hl9
   go_wp2_with fail
   obtain ⟨d, hdef⟩ : ∃ d, d = rd ((l.take E).drop (E - 9)) := ⟨_, rfl⟩
   rw [← hdef] at hr9
   have HDEF := Lib.hid hdef
   clear hdef
   refine HPU.out.mono ?_
   rintro e w3 ⟨rfl, hw3⟩
   rw [← HDEF.out]
   have HX3 : RowKit.Hid (Ext wr w3) := Lib.hid (by
    rcases hw3 with rfl | rfl
    ·exact Ext.refl _
    ·exact ext_bytesWorld _ _ _)
   clear hw3
   have hsz3 := HX3.out.size
   go_wp2_with (at_builtin; refine wpList_append_own _ rfl _ _ 86 rfl w2.heap.size 162 i0 (.int .u64 0) 1 8 Tryz.underlying86 hi hz0 hz1 hz2 rfl (by decide) _ _ _ rfl ((ownsRow_ext HOWN.out HX3.out).alloc _) ⟨w3.heap.size, 0, none⟩ 1 1 [.int .u64 (d : Int)] rfl rfl ?c1 ?c2 ?c3 ?c4 ?c5 ?_)
   case c1 =>
    intro j u hj
    match j, hj with
    | 0, hj => simp at hj; subst hj; simp [Addr.add]
   case c2 => intro u hu; simp at hu; subst hu; rfl
   case c3 => unfold maxLen; omega
   case c4 => omega
   case c5 => simp; omega
   intro v' w4 hown' hgrow _
   go_wp2_with fail
   refine ⟨⟨(E : Int) - 9, ys ++ [d], by omega, by go_num, by omega, by simp; omega, ?_, by simpa [u64s] using hown', ?_⟩, by simp only [RowKit.intOf]; omega⟩
   ·rw [HDEF.out, show (l.take ((E : Int) - 9).toNat) = (l.take E).take (E - 9) by rw [List.take_take]; congr 1; omega]
    exact HSTEP.out
   ·have h5 : Below w2.heap.size wr w3 := Below.mono HX3.out (by omega)
    exact (((HBEL.out.trans h5).alloc (by omega) _).grown hgrow (by simp; omega) (fun k hk => (HOWN.out.lt k hk).1))
  ·have hln := HOWN.out.1
   have hval : val ys = rd l := by
    have := HST.out.sum
    rw [show e.toNat = 0 by omega] at this
    simpa [rd, rdA] using this.symm
   obtain ⟨rfl, hcap⟩ : n = ys.length ∧ ys.length ≤ c := by
    rcases HOWN.out.2 with ⟨h1, h2⟩ | ⟨g, cap, cur, h1, h2, h3, h4, _⟩
    ·simp at h1; omega
    ·simp at h1; obtain ⟨_, rfl, rfl⟩ := h1; exact ⟨rfl, h4⟩
   have hrow := row_of_owns HOWN.out (by simp)
   have HROW := Lib.hid hrow
   have HVAL := Lib.hid hval
   clear hrow hval hln
   go_wp2_with fail
   refine (trim_len a c ys.length ys wr rfl (by omega) hcap HROW.out).mono ?_
   rintro e w' ⟨rfl, hww⟩
   subst hww
   go_wp2_with fail
   refine (number_any neg _ (rd l) wr (nat_of_trim HST.out.low HROW.out HVAL.out hcap) (Nat.le_trans (nl_le_of_lt (k := l.length) (Nat.lt_of_lt_of_le (rd_lt HD.out) (by rw [ten9]; exact Nat.pow_le_pow_right (by omega) (by omega)))) (by omega))).mono ?_
   rintro e w5 ⟨v5, rfl, ⟨a5, n5, c5, rfl, hs5⟩, hx5⟩
   have HX5 := Lib.hid hx5
   have HS5 := Lib.hid hs5
   have hlt : w.heap.size < w2.heap.size := by rw [HS1.out]; omega
   have BB : RowKit.Hid (w5.heap[w.heap.size]? = some (.cells #[.bool false, .slice none 0 0] 88 (0, 0))) := Lib.hid (by
    rw [Below.block HX5.out _ (by omega), HBEL.out.block _ hlt, HW1.out, heap_alloc_eq])
   have d0 := cell2_0 BB.out
   have d1 := cell2_1 BB.out
   have f0 := frozen_of_row _ _ 0 _ _ BB.out
   have f1 := frozen_of_row _ _ 1 _ _ BB.out
   clear hs5 hx5
   go_wp2_with fail
   have HXX : Ext w w5 := by
    refine Ext.trans (b := w2) (by rw [HW1.out]; exact Ext.alloc (Ext.refl w) _) ?_
    exact Below.trans HBEL.out (Below.mono HX5.out (by omega))
   refine ret_num rfl rfl (blk2_set BB.out) rfl ⟨_, rfl, ?_, ext2 HXX (Nat.le_refl _) _ _⟩
   have hs := HS5.out.grown (noInts2 BB.out) (grown2 _ _ (.bool (decide (sgnd neg (rd l) < 0))) (.slice a5 n5 c5))
   exact num_of' rfl hs
end Go.Proofs.YtldokelpolbnnaaGreatDoor
end
section
set_option linter.unusedSectionVars false
set_option linter.unusedVariables false
namespace Go.Proofs.YtldokelpolbnnaaGreatDoor
open Go.RowKit
def TabU (u : PH) : Prop := ∀ w, Part u w → Lib.TabIs Tryz.prog w "internal/strconv.uint64pow10" .u64 Lib.pow10Tab
theorem TabU.mono {u u' : PH} (h : TabU u) (hl : PH.le u u') : TabU u' := fun w hp => h w (fun g o hg => hp g o (hl g o hg))
section
variable {u : PH} {x : Value}
theorem formatUint0 {k : Nat} (ht : TabU u) (hk : k < 18446744073709551616) : Fn0 Tryz.prog 152 [.int .u64 (k : Int), .int .i64 10] u fun v _ => v = .string (mkS (Lib.decDigits k)) :=
 Fn0.ofW (fun v _ => v = .string (mkS (Lib.decDigits k))) (fun w hp => (formatUintS_any k hk w (ht w hp)).mono fun _ _ ⟨e, h⟩ => ⟨_, e, rfl, h⟩) (fun _ _ _ h _ _ _ => h)
theorem numRead0 {z : Int} (h : Lib.nDigits z.natAbs ≤ 400) : Fn0 Tryz.prog 84 [.string (mkS (Lib.itoa z))] u fun v u' => NumP u' v z := by
 refine Fn0.ofW (fun v w => NumV w v z) (fun w _ => ?_) (fun _ _ _ h _ c _ => NumP.ofW h c)
 have := numRead_any (decide (z < 0)) (Lib.decDigits z.natAbs) w (dec_dig _) (dec_ne_nil _) (by rw [Lib.decDigits_length]; omega)
 rw [sgnd_itoa, ← itoa_signed] at this
 exact this
theorem numString0 {z : Int} (ht : TabU u) (h : NumP u x z) (hs : nl z.natAbs ≤ 100000000000) : Fn0 Tryz.prog 153 [x] u fun v _ => v = .string (mkS (Lib.itoa z)) :=
 Fn0.ofW (fun v _ => v = .string (mkS (Lib.itoa z))) (fun w hp => (numString_any x z w (h.toW hp) hs (ht w hp)).mono fun _ _ ⟨e, h⟩ => ⟨_, e, rfl, h⟩) (fun _ _ _ h _ _ _ => h)
end
theorem NatP.at {u : PH} {a : Option Addr} {n c k j : Nat} (h : NatP u (.slice a n c) k) (hj : j < (limbs k).length) : ∃ b off, a = some ⟨b, off, none⟩ ∧ ElP u b (off + j * 1) (.int .u64 ((limbs k).getD j 0 : Nat)) := by
 obtain ⟨a', c', h1, h2, h3⟩ := h
 simp only [Value.slice.injEq] at h1
 obtain ⟨rfl, _, rfl⟩ := h1
 obtain ⟨b, off, e1, e2⟩ := h3 j (by simpa using hj)
 refine ⟨b, off, e1, fun i y hi => ?_⟩
 have hx : (u64s (limbs k)).getD j (.bool false) = .int .u64 ((limbs k).getD j 0 : Nat) := by simp [u64s, hj]
 rw [hx] at e2
 have : i = 0 ∧ y = .int .u64 ((limbs k).getD j 0 : Nat) := by
  match i, hi with
  | 0, hi => simp [Value.cells] at hi; simp [hi]
 obtain ⟨rfl, rfl⟩ := this
 simpa using e2
theorem numDigits0 {u : PH} {x : Value} {z : Int} (ht : TabU u) (h : NumP u x z) (hs : nl z.natAbs ≤ 100000000000) : Fn0 Tryz.prog 121 [x] u fun v _ => v = .int .i64 (Lib.nDigits z.natAbs : Nat) := by
 obtain ⟨a, n, c, rfl, hn⟩ := h
 obtain rfl : n = (limbs z.natAbs).length := by obtain ⟨_, _, h1, _⟩ := id hn; simp at h1; exact h1.2.1
 generalize decide (z < 0) = b
 have hs' : (limbs z.natAbs).length ≤ 100000000000 := hs
 refine Fn0.of Tryz.func121 (by kernel_rfl) (by kernel_rfl) ?_
 by_cases h0 : z.natAbs = 0
 ·refine G.eqlT ((limbs z.natAbs).length : Int) 0 (by kernel_rfl) (by rw [h0, limbs_zero]; rfl) ?_
  exact G.ret (.int .i64 1) (by kernel_rfl) ⟨rfl, by rw [h0, Lib.nDigits_small (by omega)]; rfl⟩
 ·have hp : 0 < (limbs z.natAbs).length := len_pos.2 (by omega)
  have htop := nDigits_top h0
  have hlow := (low_limbs z.natAbs).getD ((limbs z.natAbs).length - 1)
  obtain ⟨bb, off, rfl, he⟩ := hn.at (j := (limbs z.natAbs).length - 1) (by omega)
  have h9 := nDigits_le9 hlow
  have hdl := Lib.decDigits_length ((limbs z.natAbs).getD ((limbs z.natAbs).length - 1) 0)
  have hsz : (mkS (Lib.decDigits ((limbs z.natAbs).getD ((limbs z.natAbs).length - 1) 0))).size = (Lib.decDigits ((limbs z.natAbs).getD ((limbs z.natAbs).length - 1) 0)).length := Go.Lib.size_mk _
  refine G.eqlF ((limbs z.natAbs).length : Int) 0 (by kernel_rfl) (by omega) ?_
  refine G.sub ((limbs z.natAbs).length : Int) 1 (((limbs z.natAbs).length - 1 : Nat) : Int) (by kernel_rfl) (by omega) (by omega) (by omega) ?_
  refine G.mul 9 (((limbs z.natAbs).length - 1 : Nat) : Int) ((9 * ((limbs z.natAbs).length - 1) : Nat) : Int) (by kernel_rfl) (by omega) (by omega) (by omega) ?_
  refine G.addr bb off (limbs z.natAbs).length c ((limbs z.natAbs).length - 1) 1 (by kernel_rfl) (by omega) ?_
  refine G.loadU none bb (off + ((limbs z.natAbs).length - 1) * 1) (.int .u64 ((limbs z.natAbs).getD ((limbs z.natAbs).length - 1) 0 : Nat)) (by kernel_rfl) (by kernel_rfl) he ?_
  refine G.call0 _ _ (by kernel_rfl) Tryz.call152 (formatUint0 (k := (limbs z.natAbs).getD ((limbs z.natAbs).length - 1) 0) ht (by omega)) ?_
  rintro v1 u1 l1 rfl
  refine G.add ((9 * ((limbs z.natAbs).length - 1) : Nat) : Int) ((Lib.decDigits ((limbs z.natAbs).getD ((limbs z.natAbs).length - 1) 0)).length : Int) ((Lib.nDigits z.natAbs : Nat) : Int) (by kernel_rfl) (by omega) (by omega) (by omega) ?_
  exact G.ret _ (by kernel_rfl) ⟨rfl, rfl⟩
theorem fracRat0 {u : PH} {x : Value} {q : Rat} (ht : TabU u) (hx : FracP u x q) (h : Tx q) : Fn0 Tryz.prog 122 [x] u fun v _ => v = .string (mkS (ratT q)) := by
 obtain ⟨b, a, n, c, b', a', n', c', rfl⟩ := hx.opn
 have hd := Nat.le_trans (nl_of_dig h.2) (show 400 ≤ 4000000000000 by omega)
 refine Fn0.of Tryz.func122 (by kernel_rfl) (by kernel_rfl) ?_
 refine G.call0 _ _ (by kernel_rfl) Tryz.call104 (fracWhole0 hx hd) ?_
 rintro v1 u1 l1 rfl
 by_cases h1 : q.den = 1
 ·rw [decide_eq_true h1]
  refine G.call0 _ _ (by kernel_rfl) Tryz.call153 (numString0 (ht.mono l1) (hx.num.mono l1) (Nat.le_trans (nl_of_dig h.1) (by omega))) ?_
  rintro v2 u2 l2 rfl
  exact G.ret (.string (mkS (Lib.itoa q.num))) (by kernel_rfl) ⟨rfl, by rw [ratT, if_pos h1]⟩
 ·rw [decide_eq_false h1]
  refine G.call0 _ _ (by kernel_rfl) Tryz.call153 (numString0 (ht.mono l1) (hx.num.mono l1) (Nat.le_trans (nl_of_dig h.1) (by omega))) ?_
  rintro v2 u2 l2 rfl
  have e1 := itoa_len h.1
  have e2 := itoa_len h.den
  refine G.addS (Lib.itoa q.num) [47] (by kernel_rfl) (by simp; omega) ?_
  refine G.call0 _ _ (by kernel_rfl) Tryz.call153 (numString0 (ht.mono (l1.trans l2)) (hx.den.mono (l1.trans l2)) (Nat.le_trans (nl_of_dig h.den) (by omega))) ?_
  rintro v3 u3 l3 rfl
  refine G.addS (Lib.itoa q.num ++ [47]) (Lib.itoa (q.den : Int)) (by kernel_rfl) (by simp; omega) ?_
  exact G.ret (.string (mkS (Lib.itoa q.num ++ [47] ++ Lib.itoa (q.den : Int)))) (by kernel_rfl) ⟨rfl, by rw [ratT, if_neg h1]; simp⟩
theorem fracFits0 {u : PH} {x : Value} {q : Rat} (ht : TabU u) (hx : FracP u x q) (h : Tx q) : Fn0 Tryz.prog 75 [x] u fun v _ => v = .tuple #[.string (mkS (ratT q)), .int .i64 0] := by
 obtain ⟨b, a, n, c, b', a', n', c', rfl⟩ := hx.opn
 have h2 := h.2
 have h1 := h.1
 refine Fn0.of Tryz.func75 (by kernel_rfl) (by kernel_rfl) ?_
 refine G.call0 _ _ (by kernel_rfl) Tryz.call121 (numDigits0 ht hx.num (Nat.le_trans (nl_of_dig h.1) (by omega))) ?_
 rintro v1 u1 l1 rfl
 refine G.gtrF ((Lib.nDigits q.num.natAbs : Nat) : Int) 400 (by kernel_rfl) (by omega) ?_
 refine G.call0 _ _ (by kernel_rfl) Tryz.call121 (numDigits0 (ht.mono l1) (hx.den.mono l1) (Nat.le_trans (nl_of_dig h.den) (by omega))) ?_
 rintro v2 u2 l2 rfl
 have h3 := h.den
 refine G.gtrF ((Lib.nDigits ((q.den : Int)).natAbs : Nat) : Int) 400 (by kernel_rfl) (by omega) ?_
 refine G.call0 _ _ (by kernel_rfl) Tryz.call122 (fracRat0 (ht.mono (l1.trans l2)) (hx.mono (l1.trans l2)) h) ?_
 rintro v3 u3 l3 rfl
 exact G.ret _ (by kernel_rfl) ⟨rfl, rfl⟩
end Go.Proofs.YtldokelpolbnnaaGreatDoor
end
section
set_option linter.unusedSectionVars false
set_option linter.unusedVariables false
namespace Go.Proofs.YtldokelpolbnnaaGreatDoor
open Go.RowKit
theorem index_none {l : List UInt8} {c : UInt8} (h : ∀ b ∈ l, b ≠ c) : Lib.indexByte l c = -1 := by
 induction l with
 | nil => rfl
 | cons b l ih =>
  have h1 : (b == c) = false := by rw [beq_eq_false_iff_ne]; exact h b (by simp)
  rw [Lib.indexByte, h1, ih (fun x hx => h x (by simp [hx]))]; rfl
theorem index_at {l r : List UInt8} {c : UInt8} (h : ∀ b ∈ l, b ≠ c) : Lib.indexByte (l ++ c :: r) c = l.length := by
 induction l with
 | nil => simp [Lib.indexByte]
 | cons b l ih =>
  have h1 : (b == c) = false := by rw [beq_eq_false_iff_ne]; exact h b (by simp)
  have h2 := ih (fun x hx => h x (by simp [hx]))
  rw [List.cons_append, Lib.indexByte, h1, h2]
  have h3 : (((l.length : Nat) : Int) == -1) = false := by rw [beq_eq_false_iff_ne]; omega
  simp [h3]
theorem index0 {u : PH} {l : List UInt8} {c : UInt8} : Fn0 Tryz.prog 154 [.string (mkS l), .string (mkS [c])] u fun v _ => v = .int .i64 (Lib.indexByte l c) :=
 Fn0.ofW (fun v _ => v = .int .i64 (Lib.indexByte l c)) (fun w _ => (Tryz.stringslite_Index_one (mkS l) c w).mono fun _ _ ⟨e, h⟩ => ⟨_, e, rfl, by rw [h]; exact Ext.refl _⟩) (fun _ _ _ h _ _ _ => h)
theorem cutN {u : PH} {T : List UInt8} (h : ∀ b ∈ T, b ≠ 47) : Fn0 Tryz.prog 81 [.string (mkS T), .string (mkS [47])] u fun v _ => v = .tuple #[.string (mkS T), .string (mkS []), .bool false] := by
 have hin : Fn0 Tryz.prog 124 [.string (mkS T), .string (mkS [47])] u fun v _ => v = .tuple #[.string (mkS T), .string (mkS []), .bool false] := by
  refine Fn0.of Tryz.func124 (by kernel_rfl) (by kernel_rfl) ?_
  refine G.call0 _ _ (by kernel_rfl) Tryz.call154 (index0 (l := T) (c := 47)) ?_
  rintro v1 u1 l1 rfl
  rw [index_none h]
  refine G.geqF (-1) 0 (by kernel_rfl) (by omega) ?_
  exact G.ret (.tuple #[.string (mkS T), .string (mkS []), .bool false]) (by kernel_rfl) ⟨rfl, rfl⟩
 refine Fn0.of Tryz.func81 (by kernel_rfl) (by kernel_rfl) ?_
 refine G.call0 _ _ (by kernel_rfl) Tryz.call124 hin ?_
 rintro v1 u1 l1 rfl
 exact G.ret _ (by kernel_rfl) ⟨rfl, rfl⟩
theorem cutS {u : PH} {A B : List UInt8} (h : ∀ b ∈ A, b ≠ 47) (hl : (A ++ 47 :: B).length ≤ 1000000) : Fn0 Tryz.prog 81 [.string (mkS (A ++ 47 :: B)), .string (mkS [47])] u fun v _ => v = .tuple #[.string (mkS A), .string (mkS B), .bool true] := by
 have hlen : (A ++ 47 :: B).length = A.length + 1 + B.length := by simp; omega
 have htk : (A ++ 47 :: B).take A.length = A := by simp
 have hdr : (A ++ 47 :: B).drop (A.length + 1) = B := by rw [← List.drop_drop]; simp
 have hix := index_at (r := B) h
 generalize A ++ 47 :: B = T at *
 have hsize : (mkS T).size = T.length := Go.Lib.size_mk _
 have hin : Fn0 Tryz.prog 124 [.string (mkS T), .string (mkS [47])] u fun v _ => v = .tuple #[.string (mkS A), .string (mkS B), .bool true] := by
  refine Fn0.of Tryz.func124 (by kernel_rfl) (by kernel_rfl) ?_
  refine G.call0 _ _ (by kernel_rfl) Tryz.call154 (index0 (l := T) (c := 47)) ?_
  rintro v1 u1 l1 rfl
  rw [hix]
  refine G.geqT (A.length : Int) 0 (by kernel_rfl) (by omega) ?_
  refine G.sliceSTo T A.length (by kernel_rfl) (by kernel_rfl) (by omega) ?_
  rw [htk]
  refine G.add (A.length : Int) 1 ((A.length + 1 : Nat) : Int) (by kernel_rfl) (by omega) (by omega) (by omega) ?_
  refine G.sliceSFrom T (A.length + 1) (by kernel_rfl) (by kernel_rfl) (by omega) ?_
  rw [hdr]
  exact G.ret (.tuple #[.string (mkS A), .string (mkS B), .bool true]) (by kernel_rfl) ⟨rfl, rfl⟩
 refine Fn0.of Tryz.func81 (by kernel_rfl) (by kernel_rfl) ?_
 refine G.call0 _ _ (by kernel_rfl) Tryz.call124 hin ?_
 rintro v1 u1 l1 rfl
 exact G.ret _ (by kernel_rfl) ⟨rfl, rfl⟩
theorem cutT {u : PH} {q : Rat} (h : Tx q) : Fn0 Tryz.prog 81 [.string (mkS (ratT q)), .string (mkS [47])] u fun v _ => v = .tuple #[.string (mkS (Lib.itoa q.num)), .string (mkS (if q.den = 1 then [] else Lib.itoa (q.den : Int))), .bool (decide (q.den ≠ 1))] := by
 have l1 := itoa_len h.1
 have l2 := itoa_len h.den
 unfold ratT
 by_cases hd : q.den = 1
 ·rw [if_pos hd, if_pos hd, decide_eq_false (by simp [hd])]
  exact cutN (itoa_no47 _)
 ·rw [if_neg hd, if_neg hd, decide_eq_true hd]
  exact cutS (itoa_no47 _) (by simp; omega)
theorem FracP.mk {u : PH} {q : Rat} {y z : Int} {b b' : Bool} {a a' : Option Addr} {n c n' c' : Nat} (h1 : NumP u (.agg #[.bool b, .slice a n c]) y) (h2 : NumP u (.agg #[.bool b', .slice a' n' c']) z) (hy : q.num = y) (hz : (q.den : Int) = z) :
  FracP u (.agg #[.bool b, .slice a n c, .bool b', .slice a' n' c']) q := by
 obtain ⟨_, _, _, e1, i1⟩ := h1
 obtain ⟨_, _, _, e2, i2⟩ := h2
 subst hy hz
 rw [decide_eq_false (by omega)] at e2
 simp only [Value.agg.injEq, Array.mk.injEq, List.cons.injEq, Value.bool.injEq, Value.slice.injEq, and_true] at e1 e2
 obtain ⟨rfl, rfl, rfl, rfl⟩ := e1
 obtain ⟨rfl, rfl, rfl, rfl⟩ := e2
 exact ⟨_, _, _, _, _, _, rfl, i1, i2⟩
theorem fracRead0 {u : PH} {q : Rat} (h : Tx q) : Fn0 Tryz.prog 50 [.string (mkS (ratT q))] u fun v u' => FracP u' v q := by
 refine Fn0.of Tryz.func50 (by kernel_rfl) (by kernel_rfl) ?_
 refine G.call0 _ _ (by kernel_rfl) Tryz.call81 (cutT h) ?_
 rintro v1 u1 l1 rfl
 by_cases hd : q.den = 1
 ·rw [if_pos hd, decide_eq_false (by simp [hd])]
  refine G.call0 _ _ (by kernel_rfl) Tryz.call84 (numRead0 h.1) ?_
  intro v2 u2 l2 k2
  obtain ⟨b2, a2, n2, c2, rfl⟩ := k2.opn
  have hr1 := numRead0 (u := u2) (z := 1) (by rw [Lib.nDigits_small (by decide)]; omega)
  rw [itoa_one] at hr1
  refine G.call0 _ _ (by kernel_rfl) Tryz.call84 hr1 ?_
  intro v3 u3 l3 k3
  obtain ⟨b3, a3, n3, c3, rfl⟩ := k3.opn
  exact G.ret (.agg #[.bool b2, .slice a2 n2 c2, .bool b3, .slice a3 n3 c3]) (by kernel_rfl) ⟨rfl, FracP.mk (k2.mono l3) k3 rfl (by rw [hd]; rfl)⟩
 ·rw [if_neg hd, decide_eq_true hd]
  refine G.call0 _ _ (by kernel_rfl) Tryz.call84 (numRead0 h.1) ?_
  intro v2 u2 l2 k2
  obtain ⟨b2, a2, n2, c2, rfl⟩ := k2.opn
  refine G.call0 _ _ (by kernel_rfl) Tryz.call84 (numRead0 h.den) ?_
  intro v3 u3 l3 k3
  obtain ⟨b3, a3, n3, c3, rfl⟩ := k3.opn
  exact G.ret (.agg #[.bool b2, .slice a2 n2 c2, .bool b3, .slice a3 n3 c3]) (by kernel_rfl) ⟨rfl, FracP.mk (k2.mono l3) k3 rfl rfl⟩
end Go.Proofs.YtldokelpolbnnaaGreatDoor
end
section
set_option linter.unusedSectionVars false
set_option linter.unusedVariables false
namespace Go.Proofs.YtldokelpolbnnaaGreatDoor
open Go.RowKit
def strsV (ts : List (List UInt8)) : List Value := ts.map fun t => Value.string (mkS t)
theorem strsV_length (ts : List (List UInt8)) : (strsV ts).length = ts.length := by simp [strsV]
theorem strsV_snoc (ts : List (List UInt8)) (t : List UInt8) : strsV ts ++ [.string (mkS t)] = strsV (ts ++ [t]) := by simp [strsV]
theorem strsV_ok (ts : List (List UInt8)) : ElsOK 1 (strsV ts) := by
 intro e he
 simp only [strsV, List.mem_map] at he
 obtain ⟨b, _, rfl⟩ := he
 exact ⟨rfl, fun x hx => by simp [Value.cells] at hx; subst hx; rfl⟩
def StrsP (u : PH) (v : Value) (ts : List (List UInt8)) : Prop := ListP u v 1 (strsV ts)
def FracsAt (u : PH) (es : List Value) (qs : List Rat) : Prop := es.length = qs.length ∧ ∀ (j : Nat) (q : Rat), qs[j]? = some q → ∃ e, es[j]? = some e ∧ FracP u e q
theorem FracsAt.mono {u u' : PH} {es : List Value} {qs : List Rat} (h : FracsAt u es qs) (hl : PH.le u u') : FracsAt u' es qs :=
 ⟨h.1, fun j q hj => by obtain ⟨e, h1, h2⟩ := h.2 j q hj; exact ⟨e, h1, h2.mono hl⟩⟩
theorem FracsAt.snoc {u : PH} {es : List Value} {qs : List Rat} {e : Value} {q : Rat} (h : FracsAt u es qs) (he : FracP u e q) : FracsAt u (es ++ [e]) (qs ++ [q]) := by
 refine ⟨by simp [h.1], fun j r hj => ?_⟩
 by_cases hjl : j < qs.length
 ·rw [List.getElem?_append_left hjl] at hj
  obtain ⟨e', h1, h2⟩ := h.2 j r hj
  exact ⟨e', by rw [List.getElem?_append_left (by rw [h.1]; exact hjl)]; exact h1, h2⟩
 ·rw [List.getElem?_append_right (by omega)] at hj
  have : j - qs.length = 0 := by
   rcases Nat.eq_zero_or_pos (j - qs.length) with h0 | h0
   ·exact h0
   ·rw [List.getElem?_eq_none (by simp; omega)] at hj; cases hj
  rw [this] at hj; simp at hj; subst hj
  refine ⟨e, ?_, he⟩
  rw [List.getElem?_append_right (by rw [h.1]; omega), h.1, this]; rfl
def FracsP (u : PH) (v : Value) (qs : List Rat) : Prop := ∃ es, ListP u v 4 es ∧ FracsAt u es qs
theorem FracsP.mono {u u' : PH} {v : Value} {qs : List Rat} (h : FracsP u v qs) (hl : PH.le u u') : FracsP u' v qs := by
 obtain ⟨es, h1, h2⟩ := h; exact ⟨es, h1.mono hl, h2.mono hl⟩
theorem FracP.ok {u : PH} {e : Value} {q : Rat} (h : FracP u e q) : ElsOK 4 [e] := by
 obtain ⟨b, a, n, c, b', a', n', c', rfl⟩ := h.opn
 intro x hx
 simp at hx; subst hx
 exact ⟨rfl, fun y hy => by simp [Value.cells] at hy; rcases hy with rfl | rfl | rfl | rfl <;> rfl⟩
theorem ListP.opn {u : PH} {v : Value} {sz : Nat} {es : List Value} (h : ListP u v sz es) : ∃ a c, v = .slice a es.length c := by
 obtain ⟨a, c, rfl, _⟩ := h; exact ⟨a, c, rfl⟩
theorem ListP.at' {u : PH} {a : Option Addr} {n c sz : Nat} {es : List Value} (h : ListP u (.slice a n c) sz es) {j : Nat} {e : Value} (hj : es[j]? = some e) : ∃ b off, a = some ⟨b, off, none⟩ ∧ ElP u b (off + j * sz) e := by
 obtain ⟨a', c', h1, h2, h3⟩ := h
 simp only [Value.slice.injEq] at h1
 obtain ⟨rfl, _, rfl⟩ := h1
 exact h3 j e hj
set_option maxHeartbeats 1000000 in
theorem fracList0 {u : PH} {v : Value} {qs : List Rat} (h : StrsP u v (qs.map ratT)) (hq : ∀ q ∈ qs, Tx q) (hl : qs.length ≤ 1000000) : Fn0 Tryz.prog 91 [v] u fun v' u' => FracsP u' v' qs := by
 obtain ⟨a, c, rfl⟩ := ListP.opn h
 have hlen : (strsV (qs.map ratT)).length = qs.length := by rw [strsV_length, List.length_map]
 rw [hlen] at h ⊢
 refine Fn0.of Tryz.func91 (by kernel_rfl) (by kernel_rfl) ?_
 refine G.loop (ι := Nat × List Value × (Option Addr × Nat × Nat)) (fun i => [(3, .v (.slice i.2.2.1 i.2.2.2.1 i.2.2.2.2)), (6, .v (.slice a qs.length c)), (7, .v (.int .i64 (qs.length : Int))), (8, .v (.int .i64 (i.1 : Int)))]) (fun _ => [])
  (fun i u' m' => i.1 ≤ qs.length ∧ FracsAt u' i.2.1 (qs.take i.1) ∧ ArrAt PH.mt m' (.slice i.2.2.1 i.2.2.2.1 i.2.2.2.2) 90 4 i.2.1) (fun i => qs.length - i.1) (0, [], (none, 0, 0)) (by kernel_rfl) (fun _ => by kernel_rfl) ⟨by kernel_rfl, by kernel_rfl, by kernel_rfl⟩ ⟨by simp, ⟨by simp, fun j q hj => by simp at hj⟩, ArrAt.nil _ _ _⟩ ?_
 rintro J ⟨k, es, ⟨a1, n1, c1⟩⟩ hJ u' m' hle ⟨hk, hF, hA⟩
 simp only at hk hF hA hJ
 have hel := hF.1
 rw [List.length_take] at hel
 by_cases hlt : k < qs.length
 ·refine G.lssT (k : Int) (qs.length : Int) (by kernel_rfl) (by omega) ?_
  have hqk : qs[k]? = some qs[k] := List.getElem?_eq_getElem hlt
  obtain ⟨ba, oa, rfl, ea⟩ := ListP.at' (ListP.mono h hle) (j := k) (e := .string (mkS (ratT qs[k]))) (by simp [strsV, hqk])
  have htx := hq qs[k] (List.getElem_mem hlt)
  refine G.addr ba oa qs.length c k 1 (by kernel_rfl) (by omega) ?_
  refine G.loadU none ba (oa + k * 1) (.string (mkS (ratT qs[k]))) (by kernel_rfl) (by kernel_rfl) ea ?_
  refine G.call0 _ _ (by kernel_rfl) Tryz.call50 (fracRead0 htx) ?_
  intro v2 u2 l2 k2
  obtain ⟨b2, a2, n2, c2, b2', a2', n2', c2', rfl⟩ := k2.opn
  refine G.buildU 90 4 64 (.agg #[.bool false, .slice none 0 0, .bool false, .slice none 0 0]) [.agg #[.bool b2, .slice a2 n2 c2, .bool b2', .slice a2' n2' c2']] (by kernel_rfl) k2.ok rfl (by omega) (by simp) (by simp) ?_
  intro g u3 l3 e3
  refine G.append 90 4 64 (.agg #[.bool false, .slice none 0 0, .bool false, .slice none 0 0]) PH.mt es [.agg #[.bool b2, .slice a2 n2 c2, .bool b2', .slice a2' n2' c2']] (.slice a1 n1 c1) g 0 1 1 (by kernel_rfl) rfl rfl (by omega) hA e3 k2.ok rfl (by omega) (by omega) (by omega) ?_
  intro v4 m4 hA4
  obtain ⟨a4, c4, rfl⟩ := hA4.shape
  refine G.add (k : Int) 1 ((k + 1 : Nat) : Int) (by kernel_rfl) (by omega) (by omega) (by omega) ?_
  refine G.back (by kernel_rfl) (hJ (k + 1, es ++ [Value.agg #[.bool b2, .slice a2 n2 c2, .bool b2', .slice a2' n2' c2']], (a4, (es ++ [Value.agg #[.bool b2, .slice a2 n2 c2, .bool b2', .slice a2' n2' c2']]).length, c4)) _ _ _ ⟨by kernel_rfl, by kernel_rfl, by kernel_rfl⟩ ((hle.trans l2).trans l3) ⟨by dsimp only; omega, ?_, hA4⟩ (by dsimp only; omega))
  dsimp only
  rw [List.take_add_one, hqk]
  exact (hF.mono (l2.trans l3)).snoc (k2.mono l3)
 ·have : k = qs.length := by omega
  subst this
  refine G.lssF (qs.length : Int) (qs.length : Int) (by kernel_rfl) (by omega) ?_
  refine G.give PH.mt es _ (by kernel_rfl) hA (fun _ => .inl rfl) ?_
  intro u3 l3 hL
  rw [List.take_length] at hF
  exact G.ret (.slice a1 n1 c1) (by kernel_rfl) ⟨rfl, es, hL, hF.mono l3⟩
set_option maxHeartbeats 1000000 in
theorem fracTexts0 {u : PH} {v : Value} {qs : List Rat} (ht : TabU u) (h : FracsP u v qs) (hq : ∀ q ∈ qs, Tx q) (hl : qs.length ≤ 1000000) : Fn0 Tryz.prog 51 [v] u fun v' u' => ∃ r, v' = .tuple #[r, .int .i64 0] ∧ StrsP u' r (qs.map ratT) := by
 obtain ⟨es, hL, hF⟩ := h
 obtain ⟨a, c, rfl⟩ := ListP.opn hL
 rw [hF.1] at hL ⊢
 refine Fn0.of Tryz.func51 (by kernel_rfl) (by kernel_rfl) ?_
 refine G.loop (ι := Nat × (Option Addr × Nat × Nat)) (fun i => [(4, .v (.slice i.2.1 i.2.2.1 i.2.2.2)), (9, .v (.slice a qs.length c)), (10, .v (.int .i64 (qs.length : Int))), (11, .v (.int .i64 (i.1 : Int)))]) (fun _ => [])
  (fun i u' m' => i.1 ≤ qs.length ∧ ArrAt PH.mt m' (.slice i.2.1 i.2.2.1 i.2.2.2) 34 1 (strsV ((qs.take i.1).map ratT))) (fun i => qs.length - i.1) (0, (none, 0, 0)) (by kernel_rfl) (fun _ => by kernel_rfl) ⟨by kernel_rfl, by kernel_rfl, by kernel_rfl⟩ ⟨by simp, ArrAt.nil _ _ _⟩ ?_
 rintro J ⟨k, ⟨a1, n1, c1⟩⟩ hJ u' m' hle ⟨hk, hA⟩
 simp only at hk hA hJ
 have hel : (strsV ((qs.take k).map ratT)).length = k := by simp [strsV]; omega
 by_cases hlt : k < qs.length
 ·refine G.lssT (k : Int) (qs.length : Int) (by kernel_rfl) (by omega) ?_
  have hqk : qs[k]? = some qs[k] := List.getElem?_eq_getElem hlt
  obtain ⟨e, he, hfe⟩ := hF.2 k _ hqk
  obtain ⟨ba, oa, rfl, ea⟩ := ListP.at' (hL.mono hle) (j := k) he
  have htx := hq qs[k] (List.getElem_mem hlt)
  obtain ⟨b2, a2, n2, c2, b2', a2', n2', c2', rfl⟩ := hfe.opn
  refine G.addr ba oa qs.length c k 4 (by kernel_rfl) (by omega) ?_
  refine G.loadU (some 4) ba (oa + k * 4) (.agg #[.bool b2, .slice a2 n2 c2, .bool b2', .slice a2' n2' c2']) (by kernel_rfl) (by kernel_rfl) ea ?_
  refine G.call0 _ _ (by kernel_rfl) Tryz.call75 (fracFits0 (ht.mono hle) (hfe.mono hle) htx) ?_
  rintro v2 u2 l2 rfl
  refine G.neqF 0 0 (by kernel_rfl) (by omega) ?_
  refine G.buildU 34 1 16 (.string (mkS [])) [.string (mkS (ratT qs[k]))] (by kernel_rfl) (strsV_ok [ratT qs[k]]) rfl (by omega) (by simp) (by simp) ?_
  intro g u3 l3 e3
  refine G.append 34 1 16 (.string (mkS [])) PH.mt (strsV ((qs.take k).map ratT)) [.string (mkS (ratT qs[k]))] (.slice a1 n1 c1) g 0 1 1 (by kernel_rfl) rfl rfl (by omega) hA e3 (strsV_ok [ratT qs[k]]) rfl (by omega) (by omega) (by omega) ?_
  intro v4 m4 hA4
  rw [strsV_snoc, show (qs.take k).map ratT ++ [ratT qs[k]] = (qs.take (k + 1)).map ratT by rw [List.take_add_one, hqk, List.map_append]; rfl] at hA4
  obtain ⟨a4, c4, rfl⟩ := hA4.shape
  refine G.add (k : Int) 1 ((k + 1 : Nat) : Int) (by kernel_rfl) (by omega) (by omega) (by omega) ?_
  exact G.back (by kernel_rfl) (hJ (k + 1, (a4, (strsV ((qs.take (k + 1)).map ratT)).length, c4)) _ _ _ ⟨by kernel_rfl, by kernel_rfl, by kernel_rfl⟩ ((hle.trans l2).trans l3) ⟨by dsimp only; omega, hA4⟩ (by dsimp only; omega))
 ·have : k = qs.length := by omega
  subst this
  refine G.lssF (qs.length : Int) (qs.length : Int) (by kernel_rfl) (by omega) ?_
  refine G.give PH.mt _ _ (by kernel_rfl) hA (fun _ => .inl rfl) ?_
  intro u3 l3 hL
  rw [List.take_length] at hL
  exact G.ret (.tuple #[.slice a1 n1 c1, .int .i64 0]) (by kernel_rfl) ⟨rfl, _, rfl, hL⟩
end Go.Proofs.YtldokelpolbnnaaGreatDoor
end
section
set_option linter.unusedSectionVars false
set_option linter.unusedVariables false
namespace Go.Proofs.YtldokelpolbnnaaGreatDoor
open Go.RowKit
theorem indexFuncT {u : PH} {v : Value} {ts : List (List UInt8)} {fid : Nat} {cap : Array Value} (h : StrsP u v ts) (hl : ts.length ≤ 1000000)
  (hcall : ∀ args w, (callFunc fid args).run Tryz.prog w = .ok (.enter fid args) w) (hf : ∀ t ∈ ts, ∀ u', PH.le u u' → Fn0 Tryz.prog fid [.string (mkS t)] u' fun v _ => v = .bool false) :
  Fn0 Tryz.prog 163 [v, .func (.func fid) #[] #[]] u fun v' _ => v' = .int .i64 (-1) := by
 obtain ⟨a, c, rfl⟩ := ListP.opn h
 rw [strsV_length] at h ⊢
 refine Fn0.of Tryz.func163 (by kernel_rfl) (by kernel_rfl) ?_
 refine G.loop (ι := Nat) (fun i => [(0, .v (.slice a ts.length c)), (1, .v (.func (.func fid) #[] #[])), (7, .v (.int .i64 (ts.length : Int))), (8, .v (.int .i64 (i : Int)))]) (fun _ => [])
  (fun i u' m' => i ≤ ts.length ∧ m' = PH.mt) (fun i => ts.length - i) 0 (by kernel_rfl) (fun _ => by kernel_rfl) ⟨by kernel_rfl, by kernel_rfl, by kernel_rfl⟩ ⟨by omega, rfl⟩ ?_
 rintro J k hJ u' m' hle ⟨hk, rfl⟩
 by_cases hlt : k < ts.length
 ·refine G.lssT (k : Int) (ts.length : Int) (by kernel_rfl) (by omega) ?_
  have htk : ts[k]? = some ts[k] := List.getElem?_eq_getElem hlt
  obtain ⟨ba, oa, rfl, ea⟩ := ListP.at' (ListP.mono h hle) (j := k) (e := .string (mkS ts[k])) (by simp [strsV, htk])
  refine G.addr ba oa ts.length c k 1 (by kernel_rfl) (by omega) ?_
  refine G.loadU none ba (oa + k * 1) (.string (mkS ts[k])) (by kernel_rfl) (by kernel_rfl) ea ?_
  refine G.call0 _ _ (by kernel_rfl) hcall (hf ts[k] (List.getElem_mem hlt) u' hle) ?_
  rintro v1 u1 l1 rfl
  refine G.add (k : Int) 1 ((k + 1 : Nat) : Int) (by kernel_rfl) (by omega) (by omega) (by omega) ?_
  exact G.back (by kernel_rfl) (hJ (k + 1) _ _ _ ⟨by kernel_rfl, by kernel_rfl, by kernel_rfl⟩ (hle.trans l1) ⟨by omega, rfl⟩ (by omega))
 ·refine G.lssF (k : Int) (ts.length : Int) (by kernel_rfl) (by omega) ?_
  exact G.ret (.int .i64 (-1)) (by kernel_rfl) ⟨rfl, rfl⟩
theorem containsFuncT {u : PH} {v : Value} {ts : List (List UInt8)} {fid : Nat} (h : StrsP u v ts) (hl : ts.length ≤ 1000000)
  (hcall : ∀ args w, (callFunc fid args).run Tryz.prog w = .ok (.enter fid args) w) (hf : ∀ t ∈ ts, ∀ u', PH.le u u' → Fn0 Tryz.prog fid [.string (mkS t)] u' fun v _ => v = .bool false) :
  Fn0 Tryz.prog 148 [v, .func (.func fid) #[] #[]] u fun v' _ => v' = .bool false := by
 obtain ⟨a, c, rfl⟩ := ListP.opn h
 refine Fn0.of Tryz.func148 (by kernel_rfl) (by kernel_rfl) ?_
 refine G.call0 _ _ (by kernel_rfl) Tryz.call163 (indexFuncT (cap := #[]) h hl hcall hf) ?_
 rintro v1 u1 l1 rfl
 refine G.geqF (-1) 0 (by kernel_rfl) (by omega) ?_
 exact G.ret (.bool false) (by kernel_rfl) ⟨rfl, rfl⟩
theorem refSame0 {u : PH} {v v' : Value} {ts ts' : List (List UInt8)} (h : StrsP u v ts) (h' : StrsP u v' ts') (hl : ts.length ≤ 1000000) (hl' : ts'.length ≤ 1000000) :
  Fn0 Tryz.prog 35 [v, v'] u fun r _ => r = .bool (decide (ts = ts')) := by
 obtain ⟨a, c, rfl⟩ := ListP.opn h
 obtain ⟨a', c', rfl⟩ := ListP.opn h'
 rw [strsV_length] at h h' ⊢
 rw [strsV_length]
 refine Fn0.of Tryz.func35 (by kernel_rfl) (by kernel_rfl) ?_
 by_cases hn : ts.length = ts'.length
 ·refine G.neqF (ts.length : Int) (ts'.length : Int) (by kernel_rfl) (by omega) ?_
  refine G.loop (ι := Nat) (fun i => [(0, .v (.slice a ts.length c)), (1, .v (.slice a' ts'.length c')), (12, .v (.int .i64 (ts.length : Int))), (13, .v (.int .i64 (i : Int)))]) (fun _ => [])
   (fun i u' m' => (i ≤ ts.length ∧ ts.take i = ts'.take i) ∧ m' = PH.mt) (fun i => ts.length - i) 0 (by kernel_rfl) (fun _ => by kernel_rfl) ⟨by kernel_rfl, by kernel_rfl, by kernel_rfl⟩ ⟨⟨by omega, by simp⟩, rfl⟩ ?_
  rintro J k hJ u' m' hle ⟨⟨hk, heq⟩, rfl⟩
  by_cases hlt : k < ts.length
  ·refine G.lssT (k : Int) (ts.length : Int) (by kernel_rfl) (by omega) ?_
   have hlt' : k < ts'.length := by omega
   have htk : ts[k]? = some ts[k] := List.getElem?_eq_getElem hlt
   have htk' : ts'[k]? = some ts'[k] := List.getElem?_eq_getElem hlt'
   obtain ⟨ba, oa, rfl, ea⟩ := ListP.at' (ListP.mono h hle) (j := k) (e := .string (mkS ts[k])) (by simp [strsV, htk])
   obtain ⟨bb, ob, rfl, eb⟩ := ListP.at' (ListP.mono h' hle) (j := k) (e := .string (mkS ts'[k])) (by simp [strsV, htk'])
   refine G.addr ba oa ts.length c k 1 (by kernel_rfl) (by omega) ?_
   refine G.loadU none ba (oa + k * 1) (.string (mkS ts[k])) (by kernel_rfl) (by kernel_rfl) ea ?_
   refine G.addr bb ob ts'.length c' k 1 (by kernel_rfl) (by omega) ?_
   refine G.loadU none bb (ob + k * 1) (.string (mkS ts'[k])) (by kernel_rfl) (by kernel_rfl) eb ?_
   by_cases he : ts[k] = ts'[k]
   ·refine G.neSF ts[k] ts'[k] (by kernel_rfl) he ?_
    refine G.add (k : Int) 1 ((k + 1 : Nat) : Int) (by kernel_rfl) (by omega) (by omega) (by omega) ?_
    exact G.back (by kernel_rfl) (hJ (k + 1) _ _ _ ⟨by kernel_rfl, by kernel_rfl, by kernel_rfl⟩ hle ⟨⟨by omega, by rw [List.take_add_one, List.take_add_one, heq, htk, htk', he]⟩, rfl⟩ (by omega))
   ·refine G.neST ts[k] ts'[k] (by kernel_rfl) he ?_
    exact G.ret (.bool false) (by kernel_rfl) ⟨rfl, by rw [decide_eq_false]; rintro rfl; exact he rfl⟩
  ·refine G.lssF (k : Int) (ts.length : Int) (by kernel_rfl) (by omega) ?_
   have : ts = ts' := by rw [List.take_of_length_le (by omega), List.take_of_length_le (by omega)] at heq; exact heq
   exact G.ret (.bool true) (by kernel_rfl) ⟨rfl, by simp [this]⟩
 ·refine G.neqT (ts.length : Int) (ts'.length : Int) (by kernel_rfl) (by omega) ?_
  exact G.ret (.bool false) (by kernel_rfl) ⟨rfl, by rw [decide_eq_false]; rintro rfl; exact hn rfl⟩
end Go.Proofs.YtldokelpolbnnaaGreatDoor
end
section
set_option linter.unusedSectionVars false
set_option linter.unusedSimpArgs false
set_option linter.unusedVariables false
namespace Go.Proofs.YtldokelpolbnnaaGreatDoor
open Go.RowKit
section rules
variable {P : Program} [Mixed P] {fn : Func} {Post : Spec} {st : List KI × S} {u m : PH}
theorem Good.heap {w w' : World} (h : Good u m w) (e : ∀ g : Nat, w'.heap[g]? = w.heap[g]?) : Good u m w' :=
 ⟨fun g o hg => by rw [e]; exact h.pu g o hg, fun g o hg => by rw [e]; exact h.pm g o hg, h.ap, fun g cs t fr j z hg hj => h.cl g cs t fr j z (by rw [← e]; exact hg) hj⟩
theorem G.convSB (d : Option TypeDesc) (e : TypeId) (l : List UInt8) (h : stopV P (adv P st) = .conv d (some (.slice e)) (.string (mkS l))) (hd : d.isSome = true) (he : P.underlying e = some (.int .u8))
  (k : ∀ v u', PH.le u u' → ListP u' v 1 (bytesV l) → G P fn Post (nx (adv P st) v) u' m) : G P fn Post st u m := by
 refine G.big (K := fun v' u' m' => m' = m ∧ ListP u' v' 1 (bytesV l)) h (by simp) (fun env op hv => ?_) (.inl fun v u' m' hk => by rw [hk.1]; exact PH.le_refl _) (fun env o hview w hgd => ?_) (fun v' u' m' hle hk => ?_)
 ·obtain ⟨s, d', X, rfl, _⟩ := view_conv hv; rfl
 ·obtain ⟨s, d', X, e1, e2, e3, e4⟩ := view_conv hview
  obtain ⟨dst, opp, type, pos, after, guard⟩ := o
  simp only at e1; subst e1
  obtain ⟨dd, rfl⟩ := Option.isSome_iff_exists.1 hd
  have hr := Lib.run_convert_string_bytes (P := P) w s d' e (mkS l) e3 e4 he
  have hsz : (mkS l).size = l.length := Go.Lib.size_mk l
  obtain ⟨g1, g2, g3, g4⟩ := hgd.newU (.cells (Lib.bytesCells w e (mkS l)) e ((Lib.bytesCells w e (mkS l)).size, (Lib.bytesCells w e (mkS l)).size + 1))
  have hh : ∀ g : Nat, (Lib.bytesWorld w e (mkS l)).heap[g]? = (w.alloc (.cells (Lib.bytesCells w e (mkS l)) e ((Lib.bytesCells w e (mkS l)).size, (Lib.bytesCells w e (mkS l)).size + 1))).heap[g]? := by
   intro g
   rcases Nat.lt_trichotomy g w.heap.size with h1 | h1 | h1
   ·rw [Lib.bytesWorld_at_old w e _ g h1, heap_alloc_lt _ _ h1]
   ·subst h1; rw [Lib.bytesWorld_at_new, heap_alloc_eq]
   ·rw [Array.getElem?_eq_none (by rw [Lib.bytesWorld_size]; omega), Array.getElem?_eq_none (by rw [size_alloc']; omega)]
  refine does_value (by simp [execOp, e2, hr]; rfl) ⟨_, m, g1.heap hh, ⟨by rw [Lib.bytesWorld_size]; omega, fun g hg hm => Lib.bytesWorld_at_old w e _ g hg, g2.us, g2.ms, rfl, rfl⟩, rfl, ?_⟩
  refine ⟨some ⟨w.heap.size, 0, none⟩, grownCap w l.length 0 e, by rw [bytesV_length, hsz], by rw [bytesV_length]; exact grownCap_ge w _ _ e, fun j x hj => ⟨_, 0, rfl, fun i y hy => ⟨_, _, _, upd_same _ _ _, ?_⟩⟩⟩
  have hjl : j < l.length := by
   rcases Nat.lt_or_ge j l.length with h' | h'
   ·exact h'
   ·rw [List.getElem?_eq_none (by rw [bytesV_length]; exact h')] at hj; cases hj
  rw [bytesV_get hjl] at hj
  simp only [Option.some.injEq] at hj
  subst hj
  have : i = 0 ∧ y = .int .u8 ((l.getD j 0).toNat : Int) := by
   match i, hy with
   | 0, hy => simp [Value.cells] at hy; simp [hy]
  obtain ⟨rfl, rfl⟩ := this
  simp [Lib.bytesCells, Array.getElem?_append, hjl, List.getD]
 ·obtain ⟨rfl, hk⟩ := hk
  exact k v' u' hle hk
end rules
theorem trimPrefix0 {u : PH} {s p : List UInt8} : Fn0 Tryz.prog 125 [.string (mkS s), .string (mkS p)] u fun v _ => v = .string (mkS (Lib.trimPrefix s p)) :=
 Fn0.ofW (fun v _ => v = .string (mkS (Lib.trimPrefix s p))) (fun w _ => (Tryz.strings_TrimPrefix (mkS s) (mkS p) w).mono fun _ _ ⟨e, h⟩ => ⟨_, e, rfl, by rw [h]; exact Ext.refl _⟩) (fun _ _ _ h _ _ _ => h)
theorem intValid0 {u : PH} {z : Int} (h : Lib.nDigits z.natAbs ≤ 400) : Fn0 Tryz.prog 82 [.string (mkS (Lib.itoa z))] u fun v _ => v = .bool true := by
 refine Fn0.of Tryz.func82 (by kernel_rfl) (by kernel_rfl) ?_
 by_cases h0 : z = 0
 ·subst h0
  refine G.eqST (Lib.itoa 0) [48] (by kernel_rfl) itoa_zero ?_
  exact G.ret (.bool true) (by kernel_rfl) ⟨rfl, rfl⟩
 refine G.eqSF (Lib.itoa z) [48] (by kernel_rfl) (fun e => h0 (itoa_inj (e.trans itoa_zero.symm))) ?_
 refine G.call0 _ _ (by kernel_rfl) Tryz.call125 (trimPrefix0 (s := Lib.itoa z) (p := [45])) ?_
 rintro v1 u1 l1 rfl
 have hdl := Lib.decDigits_length z.natAbs
 have hdp := Lib.nDigits_pos z.natAbs
 have hdd := dec_dig z.natAbs
 obtain ⟨b0, hb0, hb1, hb2⟩ := itoa_first (z := (z.natAbs : Int)) (by omega) (by omega)
 rw [itoa_nat] at hb0
 rw [itoa_signed z, (trimPrefix_signed hdd (dec_ne_nil _)).1]
 generalize hL : Lib.decDigits z.natAbs = L at *
 have hsize : (mkS L).size = L.length := Go.Lib.size_mk _
 refine G.eqSF L [] (by kernel_rfl) (by intro e; rw [e] at hdl; simp at hdl; omega) ?_
 refine G.gtrF (L.length : Int) 400 (by kernel_rfl) (by omega) ?_
 refine G.idxS L 0 b0 (by kernel_rfl) hb0 ?_
 refine G.cmpG .eql .u8 (b0.toNat : Int) 48 false (by kernel_rfl) rfl (by simp only [cmpZ, decide_eq_false_iff_not]; omega) ?_
 refine G.convSB (some .string) 5 L (by kernel_rfl) rfl (by kernel_rfl) ?_
 intro v2 u2 l2 k2
 obtain ⟨a, c, rfl⟩ := ListP.opn k2
 rw [bytesV_length] at k2 ⊢
 refine G.loop (ι := Nat) (fun i => [(23, .v (.slice a L.length c)), (24, .v (.int .i64 (L.length : Int))), (25, .v (.int .i64 (i : Int)))]) (fun _ => []) (fun i _ m' => i ≤ L.length ∧ m' = PH.mt) (fun i => L.length - i) 0 (by kernel_rfl) (fun _ => by kernel_rfl) ⟨by kernel_rfl, by kernel_rfl, by kernel_rfl⟩ ⟨by omega, rfl⟩ ?_
 rintro J i hJ u' m' hle ⟨hi, rfl⟩
 by_cases hlt : i < L.length
 ·refine G.lssT (i : Int) (L.length : Int) (by kernel_rfl) (by omega) ?_
  have hg := getD_dig hdd hlt
  obtain ⟨ba, oa, rfl, ea⟩ := ListP.at' (ListP.mono k2 hle) (j := i) (bytesV_get hlt)
  refine G.addr ba oa L.length c i 1 (by kernel_rfl) (by omega) ?_
  refine G.loadU none ba (oa + i * 1) (.int .u8 ((L.getD i 0).toNat : Int)) (by kernel_rfl) (by kernel_rfl) ea ?_
  refine G.cmpG .lss .u8 ((L.getD i 0).toNat : Int) 48 false (by kernel_rfl) rfl (by simp only [cmpZ, decide_eq_false_iff_not]; omega) ?_
  refine G.cmpG .gtr .u8 ((L.getD i 0).toNat : Int) 57 false (by kernel_rfl) rfl (by simp only [cmpZ, decide_eq_false_iff_not]; omega) ?_
  refine G.add (i : Int) 1 ((i + 1 : Nat) : Int) (by kernel_rfl) (by omega) (by omega) (by omega) ?_
  exact G.back (by kernel_rfl) (hJ (i + 1) _ _ _ ⟨by kernel_rfl, by kernel_rfl, by kernel_rfl⟩ hle ⟨by omega, rfl⟩ (by omega))
 ·refine G.lssF (i : Int) (L.length : Int) (by kernel_rfl) (by omega) ?_
  exact G.ret (.bool true) (by kernel_rfl) ⟨rfl, rfl⟩
end Go.Proofs.YtldokelpolbnnaaGreatDoor
end
section
set_option linter.unusedSectionVars false
set_option linter.unusedVariables false
namespace Go.Proofs.YtldokelpolbnnaaGreatDoor
open Go.RowKit
theorem intRead0 {u : PH} {z : Int} (h : Lib.nDigits z.natAbs ≤ 400) : Fn0 Tryz.prog 126 [.string (mkS (Lib.itoa z))] u fun v u' => NumP u' v z := by
 refine Fn0.of Tryz.func126 (by kernel_rfl) (by kernel_rfl) ?_
 refine G.call0 _ _ (by kernel_rfl) Tryz.call84 (numRead0 h) ?_
 intro v2 u2 l2 k2
 obtain ⟨b2, a2, n2, c2, rfl⟩ := k2.opn
 exact G.ret (.agg #[.bool b2, .slice a2 n2 c2]) (by kernel_rfl) ⟨rfl, k2⟩
theorem intCompare0 {u : PH} {y z : Int} (h : Lib.nDigits y.natAbs ≤ 400) (h' : Lib.nDigits z.natAbs ≤ 400) : Fn0 Tryz.prog 83 [.string (mkS (Lib.itoa y)), .string (mkS (Lib.itoa z))] u fun v _ => v = .int .i64 (sgn (y - z)) := by
 refine Fn0.of Tryz.func83 (by kernel_rfl) (by kernel_rfl) ?_
 refine G.call0 _ _ (by kernel_rfl) Tryz.call82 (intValid0 h) ?_
 rintro v1 u1 l1 rfl
 refine G.call0 _ _ (by kernel_rfl) Tryz.call82 (intValid0 h') ?_
 rintro v2 u2 l2 rfl
 refine G.call0 _ _ (by kernel_rfl) Tryz.call126 (intRead0 h) ?_
 intro v3 u3 l3 k3
 obtain ⟨b3, a3, n3, c3, rfl⟩ := k3.opn
 refine G.call0 _ _ (by kernel_rfl) Tryz.call126 (intRead0 h') ?_
 intro v4 u4 l4 k4
 obtain ⟨b4, a4, n4, c4, rfl⟩ := k4.opn
 refine G.call0 _ _ (by kernel_rfl) Tryz.call86 (numCompare0 (k3.mono l4) k4 (Nat.le_trans (nl_of_dig h) (by omega)) (Nat.le_trans (nl_of_dig h') (by omega))) ?_
 rintro v5 u5 l5 rfl
 exact G.ret _ (by kernel_rfl) ⟨rfl, rfl⟩
theorem ratValid0 {u : PH} {q : Rat} (h : Tx q) : Fn0 Tryz.prog 43 [.string (mkS (ratT q))] u fun v _ => v = .bool true := by
 refine Fn0.of Tryz.func43 (by kernel_rfl) (by kernel_rfl) ?_
 refine G.call0 _ _ (by kernel_rfl) Tryz.call81 (cutT h) ?_
 rintro v1 u1 l1 rfl
 refine G.call0 _ _ (by kernel_rfl) Tryz.call82 (intValid0 h.1) ?_
 rintro v2 u2 l2 rfl
 by_cases hd : q.den = 1
 ·rw [if_pos hd, decide_eq_false (by simp [hd])]
  refine G.call0 _ _ (by kernel_rfl) Tryz.call82 (intValid0 h.1) ?_
  rintro v3 u3 l3 rfl
  exact G.ret (.bool true) (by kernel_rfl) ⟨rfl, rfl⟩
 ·rw [if_neg hd, decide_eq_true hd]
  have hn := num_ne hd
  have hdn := q.den_nz
  refine G.eqSF (Lib.itoa q.num) [48] (by kernel_rfl) (fun e => hn (itoa_inj (e.trans itoa_zero.symm))) ?_
  refine G.call0 _ _ (by kernel_rfl) Tryz.call82 (intValid0 h.den) ?_
  rintro v3 u3 l3 rfl
  have hc := intCompare0 (u := u3) (y := (q.den : Int)) (z := 1) h.den (by rw [Lib.nDigits_small (by decide)]; omega)
  rw [itoa_one] at hc
  refine G.call0 _ _ (by kernel_rfl) Tryz.call83 hc ?_
  rintro v4 u4 l4 rfl
  refine G.leqF (sgn ((q.den : Int) - 1)) 0 (by kernel_rfl) (by rw [sgn_pos (by omega)]; omega) ?_
  refine G.call0 _ _ (by kernel_rfl) Tryz.call84 (numRead0 h.1) ?_
  intro v5 u5 l5 k5
  obtain ⟨b5, a5, n5, c5, rfl⟩ := k5.opn
  refine G.call0 _ _ (by kernel_rfl) Tryz.call84 (numRead0 h.den) ?_
  intro v6 u6 l6 k6
  obtain ⟨b6, a6, n6, c6, rfl⟩ := k6.opn
  refine G.call0 _ _ (by kernel_rfl) Tryz.call85 (numGcd0 (k5.mono l6) k6 (Nat.le_trans (nl_of_dig h.1) (by omega)) (Nat.le_trans (nl_of_dig h.den) (by omega))) ?_
  intro v7 u7 l7 k7
  rw [show Nat.gcd q.num.natAbs ((q.den : Int)).natAbs = 1 from q.reduced] at k7
  obtain ⟨b7, a7, n7, c7, rfl⟩ := k7.opn
  refine G.call0 _ _ (by kernel_rfl) Tryz.call87 (numOf0 (z := 1) (by omega) (by omega)) ?_
  intro v8 u8 l8 k8
  obtain ⟨b8, a8, n8, c8, rfl⟩ := k8.opn
  refine G.call0 _ _ (by kernel_rfl) Tryz.call86 (numCompare0 (k7.mono l8) k8 (Nat.le_trans nl_one (by omega)) (Nat.le_trans nl_one (by omega))) ?_
  rintro v9 u9 l9 rfl
  refine G.eqlT (sgn (((1 : Nat) : Int) - 1)) 0 (by kernel_rfl) (by decide) ?_
  exact G.ret (.bool true) (by kernel_rfl) ⟨rfl, rfl⟩
theorem ratBad0 {u : PH} {q : Rat} (h : Tx q) : Fn0 Tryz.prog 149 [.string (mkS (ratT q))] u fun v _ => v = .bool false := by
 refine Fn0.of Tryz.func149 (by kernel_rfl) (by kernel_rfl) ?_
 refine G.call0 _ _ (by kernel_rfl) Tryz.call43 (ratValid0 h) ?_
 rintro v1 u1 l1 rfl
 exact G.ret (.bool false) (by kernel_rfl) ⟨rfl, rfl⟩
theorem numbersBad0 {u : PH} {q : Rat} (h : Tx q) : Fn0 Tryz.prog 151 [.string (mkS (ratT q))] u fun v _ => v = .bool false := by
 refine Fn0.of Tryz.func151 (by kernel_rfl) (by kernel_rfl) ?_
 refine G.call0 _ _ (by kernel_rfl) Tryz.call43 (ratValid0 h) ?_
 rintro v1 u1 l1 rfl
 exact G.ret (.bool false) (by kernel_rfl) ⟨rfl, rfl⟩
theorem ratValids0 {u : PH} {v : Value} {qs : List Rat} (h : StrsP u v (qs.map ratT)) (hq : ∀ q ∈ qs, Tx q) (hl : qs.length ≤ 1000000) : Fn0 Tryz.prog 110 [v] u fun v' _ => v' = .bool true := by
 obtain ⟨a, c, rfl⟩ := ListP.opn h
 refine Fn0.of Tryz.func110 (by kernel_rfl) (by kernel_rfl) ?_
 refine G.call0 _ _ (by kernel_rfl) Tryz.call148 (containsFuncT (fid := 149) h (by simpa using hl) Tryz.call149 (fun t ht u' _ => ?_)) ?_
 ·obtain ⟨q, hq', rfl⟩ := List.mem_map.1 ht
  exact ratBad0 (hq q hq')
 ·rintro v1 u1 l1 rfl
  exact G.ret (.bool true) (by kernel_rfl) ⟨rfl, rfl⟩
theorem numbers0 {u : PH} {v : Value} {qs : List Rat} (h : StrsP u v (qs.map ratT)) (hq : ∀ q ∈ qs, Tx q) (hl : qs.length ≤ 1000000) : Fn0 Tryz.prog 120 [v] u fun v' _ => v' = .bool true := by
 obtain ⟨a, c, rfl⟩ := ListP.opn h
 refine Fn0.of Tryz.func120 (by kernel_rfl) (by kernel_rfl) ?_
 refine G.call0 _ _ (by kernel_rfl) Tryz.call148 (containsFuncT (fid := 151) h (by simpa using hl) Tryz.call151 (fun t ht u' _ => ?_)) ?_
 ·obtain ⟨q, hq', rfl⟩ := List.mem_map.1 ht
  exact numbersBad0 (hq q hq')
 ·rintro v1 u1 l1 rfl
  exact G.ret (.bool true) (by kernel_rfl) ⟨rfl, rfl⟩
end Go.Proofs.YtldokelpolbnnaaGreatDoor
end
section
set_option linter.unusedSectionVars false
set_option linter.unusedVariables false
namespace Go.Proofs.YtldokelpolbnnaaGreatDoor
open Go.RowKit
theorem cmp_sub (q r : Rat) : sgn (q.num * (r.den : Int) - r.num * (q.den : Int)) = sgn (q - r).num := by
 have h := sub_new q r
 have hz := den_pos2 q r
 obtain ⟨e1, e2, e3⟩ := new_pos (y := q.num * (r.den : Int) - r.num * (q.den : Int)) hz
 rw [h] at e1
 rw [e1]
 generalize q.num * (r.den : Int) - r.num * (q.den : Int) = y at *
 generalize (q.den : Int) * (r.den : Int) = z at *
 have hg : 0 < Nat.gcd y.natAbs z.natAbs := Nat.gcd_pos_of_pos_right _ (by omega)
 rw [tdiv_gcd_l]
 have hdv : ((Nat.gcd y.natAbs z.natAbs : Nat) : Int) ∣ y := Int.ofNat_dvd_left.2 (Nat.gcd_dvd_left _ _)
 obtain ⟨k, hk⟩ := hdv
 generalize Nat.gcd y.natAbs z.natAbs = g at *
 have hgz : (g : Int) ≠ 0 := by omega
 rw [hk, Int.mul_ediv_cancel_left _ hgz]
 rcases Int.lt_trichotomy k 0 with h1 | h1 | h1
 ·rw [sgn_neg h1, sgn_neg (Int.mul_neg_of_pos_of_neg (by omega) h1)]
 ·subst h1; simp
 ·rw [sgn_pos h1, sgn_pos (Int.mul_pos (by omega) h1)]
theorem ratCompare0 {u : PH} {q r : Rat} (h : Tx q) (h' : Tx r) : Fn0 Tryz.prog 64 [.string (mkS (ratT q)), .string (mkS (ratT r))] u fun v _ => v = .int .i64 (sgn (q - r).num) := by
 refine Fn0.of Tryz.func64 (by kernel_rfl) (by kernel_rfl) ?_
 refine G.buildU 34 1 16 (.string (mkS [])) [.string (mkS (ratT q)), .string (mkS (ratT r))] (by kernel_rfl) (strsV_ok [ratT q, ratT r]) rfl (by omega) (by simp) (by simp) ?_
 intro g u1 l1 e1
 have hS : StrsP u1 (.slice (some ⟨g, 0, none⟩) 2 2) ([q, r].map ratT) := ⟨_, 2, rfl, Nat.le_refl _, fun j e hj => ⟨g, 0, rfl, e1 j e hj⟩⟩
 refine G.call0 _ _ (by kernel_rfl) Tryz.call110 (ratValids0 hS (by intro x hx; simp at hx; rcases hx with rfl | rfl; exact h; exact h') (by simp)) ?_
 rintro v2 u2 l2 rfl
 refine G.call0 _ _ (by kernel_rfl) Tryz.call50 (fracRead0 h) ?_
 intro v3 u3 l3 k3
 obtain ⟨b3, a3, n3, c3, b3', a3', n3', c3', rfl⟩ := k3.opn
 refine G.call0 _ _ (by kernel_rfl) Tryz.call50 (fracRead0 h') ?_
 intro v4 u4 l4 k4
 obtain ⟨b4, a4, n4, c4, b4', a4', n4', c4', rfl⟩ := k4.opn
 refine G.call0 _ _ (by kernel_rfl) Tryz.call103 (fracCompare0 (k3.mono l4) k4 (h.sz.mono (by omega)) (h'.sz.mono (by omega))) ?_
 rintro v5 u5 l5 rfl
 rw [cmp_sub]
 exact G.ret _ (by kernel_rfl) ⟨rfl, rfl⟩
end Go.Proofs.YtldokelpolbnnaaGreatDoor
end
section
set_option linter.unusedSectionVars false
set_option linter.unusedVariables false
namespace Go.Proofs.YtldokelpolbnnaaGreatDoor
open Go.RowKit
def SV.pub (k g : Nat) : SV → SV
 | .p j off => cond (Nat.beq j k) (.v (.pointer (some ⟨g, off, none⟩))) (.p j off)
 | x => x
def Blk.pub (k g : Nat) (b : Blk) : Blk := ⟨b.t, b.cells.map (SV.pub k g)⟩
def S.pub (s : S) (k g : Nat) : S := { n := s.n, tm := fun d => (s.tm d).pub k g, hp := fun j => cond (Nat.beq j k) none ((s.hp j).map (Blk.pub k g)) }
theorem SV.pub_den (k : Nat) (ρ : Nat → Nat) (x : SV) : (x.pub k (ρ k)).den ρ = x.den ρ := by
 cases x with
 | junk => rfl
 | v x => rfl
 | p j off =>
  cases hb : Nat.beq j k with
  | true => have := Nat.eq_of_beq_eq_true hb; subst this; simp [SV.pub, SV.den]
  | false => simp [SV.pub, hb]
theorem SV.pub_junk {k g : Nat} {x : SV} : x.pub k g ≠ .junk ↔ x ≠ .junk := by
 cases x with
 | junk => simp [SV.pub]
 | v x => simp [SV.pub]
 | p j off => cases hb : Nat.beq j k <;> simp [SV.pub, hb]
theorem SV.pub_p {k g j off : Nat} {x : SV} (h : x.pub k g = .p j off) : x = .p j off ∧ j ≠ k := by
 cases x with
 | junk => cases h
 | v x => cases h
 | p j' off' =>
  cases hb : Nat.beq j' k with
  | true => simp [SV.pub, hb] at h
  | false =>
   simp [SV.pub, hb] at h
   obtain ⟨rfl, rfl⟩ := h
   exact ⟨rfl, fun e => by subst e; simp at hb⟩
theorem pub_hp_same (s : S) (k g : Nat) : (s.pub k g).hp k = none := by simp [S.pub]
theorem pub_hp_ne (s : S) {k g j : Nat} (h : j ≠ k) : (s.pub k g).hp j = (s.hp j).map (Blk.pub k g) := by
 have : Nat.beq j k = false := by rw [← Bool.not_eq_true]; exact fun hh => h (Nat.eq_of_beq_eq_true hh)
 simp [S.pub, this]
section rules
variable {c : Cx} {s : S} {u m : PH} {ρ : Nat → Nat} {a : Act} {w : World}
theorem Rel.pub (h : Rel c s u m ρ a w) {k : Nat} {t : TypeId} {xs : List Value} (hk : s.hp k = some ⟨t, xs.map SV.v⟩) : Rel c (s.pub k (ρ k)) u (m.upd (ρ k) (.cells xs.toArray t (0, 0))) ρ a w := by
 obtain ⟨⟨cs, e1, e2, e3⟩, e4, e5, e6⟩ := h.box k _ hk
 have hcs : cs = xs.toArray := by
  apply Array.ext
  ·simpa using e2
  ·intro i h1 h2
   have := e3 i (.v xs[i]) (by simp at h2; simp [h2]) (by simp)
   rw [Array.getElem?_eq_getElem h1] at this
   simpa [SV.den] using this
 subst hcs
 have hne : ∀ j, s.hp j ≠ none → j ≠ k → ρ j ≠ ρ k := fun j hj hjk e => hjk (h.inj j k hj (by rw [hk]; simp) e)
 refine ⟨h.sz, fun d hd => ?_, h.df, fun j b hb => ?_, fun i j hi hj he => ?_, ⟨fun d j off hd => ?_, fun i b j off hi hm => ?_⟩, ⟨h.gd.pu, fun g o hg => ?_, fun g => ?_, h.gd.cl⟩, ⟨h.gr.sz, h.gr.old, h.gr.us, fun g hg hm => ?_, h.gr.io⟩⟩
 ·have hd' : s.tm d ≠ .junk := SV.pub_junk.1 hd
  show a.tmps[d]? = some (((s.tm d).pub k (ρ k)).den ρ)
  rw [SV.pub_den]; exact h.tm d hd'
 ·by_cases hjk : j = k
  ·subst hjk; rw [pub_hp_same] at hb; cases hb
  ·rw [pub_hp_ne _ hjk] at hb
   obtain ⟨b0, hb0, rfl⟩ := Option.map_eq_some_iff.1 hb
   obtain ⟨⟨cs', f1, f2, f3⟩, f4, f5, f6⟩ := h.box j b0 hb0
   refine ⟨⟨cs', f1, by simp [Blk.pub, f2], fun i x hi hx => ?_⟩, f4, f5, ?_⟩
   ·simp only [Blk.pub, List.getElem?_map] at hi
    obtain ⟨y, hy, rfl⟩ := Option.map_eq_some_iff.1 hi
    rw [SV.pub_den]; exact f3 i y hy (SV.pub_junk.1 hx)
   ·rw [upd_ne _ _ (hne j (by rw [hb0]; simp) hjk)]; exact f6
 ·have h1 : ∀ j, (s.pub k (ρ k)).hp j ≠ none → s.hp j ≠ none := by
   intro j hj hn
   by_cases hjk : j = k
   ·subst hjk; exact hj (pub_hp_same _ _ _)
   ·rw [pub_hp_ne _ hjk, hn] at hj; exact hj rfl
  exact h.inj i j (h1 i hi) (h1 j hj) he
 ·obtain ⟨h1, h2⟩ := SV.pub_p hd
  rw [pub_hp_ne _ h2]
  have := h.lv.1 d j off h1
  intro hn; exact this (by simpa using hn)
 ·by_cases hik : i = k
  ·subst hik; rw [pub_hp_same] at hi; cases hi
  ·rw [pub_hp_ne _ hik] at hi
   obtain ⟨b0, hb0, rfl⟩ := Option.map_eq_some_iff.1 hi
   simp only [Blk.pub, List.mem_map] at hm
   obtain ⟨y, hy, hyp⟩ := hm
   obtain ⟨rfl, h2⟩ := SV.pub_p hyp
   rw [pub_hp_ne _ h2]
   have := h.lv.2 i b0 j off hb0 hy
   intro hn; exact this (by simpa using hn)
 ·by_cases hg' : g = ρ k
  ·subst hg'; rw [upd_same] at hg; simp only [Option.some.injEq] at hg; subst hg; exact e1
  ·rw [upd_ne _ _ hg'] at hg; exact h.gd.pm g o hg
 ·by_cases hg' : g = ρ k
  ·subst hg'; exact .inl e5
  ·rw [upd_ne _ _ hg']; exact h.gd.ap g
 ·rw [upd_ne _ _ (by omega)]; exact h.gr.ms g hg hm
end rules
section rules2
variable {P : Program} [Mixed P] {fn : Func} {Post : Spec} {st : List KI × S} {u m : PH}
theorem G.pub (k : Nat) (t : TypeId) (xs : List Value) (h : noReg (ctl P 100 st).1 = true) (hb : (ctl P 100 st).2.hp k = some ⟨t, xs.map SV.v⟩)
  (kk : ∀ g, u g = none → m g = none → G P fn Post ((ctl P 100 st).1, (ctl P 100 st).2.pub k g) u (m.upd g (.cells xs.toArray t (0, 0)))) : G P fn Post st u m := by
 refine ⟨ctl_sound 100 st ?_⟩
 rw [Sym.ofNo h]
 intro c ρ a w hm0 hr
 obtain ⟨_, _, e5, e6⟩ := hr.box k _ hb
 have := (kk (ρ k) e5 e6).out
 rw [Sym.ofNo (by exact h)] at this
 exact this c ρ a w hm0 (hr.pub hb)
end rules2
end Go.Proofs.YtldokelpolbnnaaGreatDoor
end
section
set_option linter.unusedSectionVars false
set_option linter.unusedVariables false
namespace Go.Proofs.YtldokelpolbnnaaGreatDoor
open Go.RowKit
def PH.or (x y : PH) : PH := fun g => match x g with | some o => some o | none => y g
theorem PH.or_l {x y : PH} {g : Nat} {o : Obj} (h : x g = some o) : x.or y g = some o := by simp [PH.or, h]
theorem PH.or_r {x y : PH} {g : Nat} (h : x g = none) : x.or y g = y g := by simp [PH.or, h]
theorem Good.frameM {u mf mc u' mc' : PH} {w w' : World} (h : Good u (mf.or mc) w) (hd : Apart mf mc) (g1 : Good u' mc' w') (g2 : Grown u mc w u' mc' w') : Good u' (mf.or mc') w' ∧ Grown u (mf.or mc) w u' (mf.or mc') w' := by
 have hmf : ∀ g o, mf g = some o → g < w.heap.size ∧ mc g = none ∧ w'.heap[g]? = some o ∧ u' g = none := by
  intro g o hg
  have h1 := h.pm g o (PH.or_l hg)
  have h2 : mc g = none := (hd g).resolve_left (by rw [hg]; simp)
  have hlt := lt_of_at h1
  refine ⟨hlt, h2, by rw [g2.old g hlt h2]; exact h1, ?_⟩
  rw [g2.us g hlt]
  exact (h.ap g).resolve_right (by rw [PH.or_l hg]; simp)
 refine ⟨⟨g1.pu, fun g o hg => ?_, fun g => ?_, g1.cl⟩, ⟨g2.sz, fun g hg hm => ?_, g2.us, fun g hg hm => ?_, g2.io⟩⟩
 ·cases hx : mf g with
  | some o' => rw [PH.or_l hx] at hg; cases hg; exact (hmf g _ hx).2.2.1
  | none => rw [PH.or_r hx] at hg; exact g1.pm g o hg
 ·cases hx : mf g with
  | some o' => exact .inl (hmf g _ hx).2.2.2
  | none => rw [PH.or_r hx]; exact g1.ap g
 ·cases hx : mf g with
  | some o' => rw [PH.or_l hx] at hm; cases hm
  | none => rw [PH.or_r hx] at hm; exact g2.old g hg hm
 ·cases hx : mf g with
  | some o' => rw [PH.or_l hx] at hm; cases hm
  | none => rw [PH.or_r hx] at hm ⊢; exact g2.ms g hg hm
section rules
variable {P : Program} [Mixed P] {fn : Func} {Post : Spec} {st : List KI × S} {u m : PH}
def noDr (st : List KI × S) : Bool := match st.1 with | .reg _ _ false _ :: _ => true | _ => false
theorem G.bigN {V : Stop} {K : Value → PH → PH → Prop} (h : stopV P (adv P st) = V) (hV : V ≠ .other) (hdr : noDr (adv P st) = true) (hf : ∀ env op, viewOp P env op = V → freeOp op = false)
  (hr : ∀ env (o : Oper), viewOp P env o.op = V → ∀ w, Good u m w → OpDoes P env o w fun v w' => ∃ u' m', Good u' m' w' ∧ Grown u m w u' m' w' ∧ K v u' m')
  (k : ∀ v u' m', PH.le u u' → K v u' m' → G P fn Post (nx (adv P st) v) u' m') : G P fn Post st u m := by
 refine G.stp ?_
 obtain ⟨id, ops, dr, i, l, kk, s, o, e, ho, hg, hd, hv, hs, hview, hnx⟩ := stopV_spec h hV
 have hdr' : dr = false := by rw [e] at hdr; cases dr <;> simp [noDr] at hdr ⊢
 rw [e]
 refine ⟨?_⟩
 refine Ob.big (K := K) ho hg hd hv hs (hf _ _ hview) (fun v u' m' hK => .inr (.inl hdr')) (fun w hgd => hr _ o hview w hgd) (fun v u' m' h1 h2 => ?_)
 have := (k v u' m' h1 h2).out
 rw [hnx] at this
 exact this
theorem G.callM (f : Nat) (args : List Value) {mf mc : PH} {R : Value → PH → PH → Prop} (h : stopV P (adv P st) = .call f args) (hdr : noDr (adv P st) = true) (hc : ∀ args w, (callFunc f args).run P w = .ok (.enter f args) w) (hm : m = mf.or mc) (hd : Apart mf mc) (c : Contract P f args u mc R)
  (k : ∀ v u' mc', PH.le u u' → R v u' mc' → G P fn Post (nx (adv P st) v) u' (mf.or mc')) : G P fn Post st u m := by
 subst hm
 refine G.bigN (K := fun v u' m' => ∃ mc', m' = mf.or mc' ∧ R v u' mc') h (by simp) hdr view_call_free (fun env o hview w hgd => ?_) (fun v u' m' h1 h2 => ?_)
 ·have hgc : Good u mc w := hgd.less (fun g o hg => by
   cases hx : mf g with
   | some o' => have := (hd g).resolve_left (by rw [hx]; simp); rw [this] at hg; cases hg
   | none => rw [PH.or_r hx]; exact hg)
  refine does_call hview hc w _ (Calls.mono (c w hgc) fun e w' he => ?_)
  obtain ⟨v, u', mc', e1, e2, e3, e4⟩ := he
  obtain ⟨g1, g2⟩ := hgd.frameM hd e2 e3
  exact ⟨v, e1, u', mf.or mc', g1, g2, mc', rfl, e4⟩
 ·obtain ⟨mc', rfl, hR⟩ := h2
  exact k v u' mc' h1 hR
end rules
end Go.Proofs.YtldokelpolbnnaaGreatDoor
end
section
set_option linter.unusedSectionVars false
set_option linter.unusedVariables false
namespace Go.Proofs.YtldokelpolbnnaaGreatDoor
open Go.RowKit
def RowsAt (u : PH) (es : List Value) (rs : List (List (List UInt8))) : Prop := es.length = rs.length ∧ ∀ (j : Nat) (r : List (List UInt8)), rs[j]? = some r → ∃ a c, es[j]? = some (.slice a r.length c) ∧ StrsP u (.slice a r.length c) r
theorem RowsAt.mono {u u' : PH} {es : List Value} {rs : List (List (List UInt8))} (h : RowsAt u es rs) (hl : PH.le u u') : RowsAt u' es rs :=
 ⟨h.1, fun j r hj => by obtain ⟨a, c, h1, h2⟩ := h.2 j r hj; exact ⟨a, c, h1, ListP.mono h2 hl⟩⟩
def MatP (u : PH) (v : Value) (rs : List (List (List UInt8))) : Prop := ∃ es, ListP u v 1 es ∧ RowsAt u es rs
theorem MatP.mono {u u' : PH} {v : Value} {rs : List (List (List UInt8))} (h : MatP u v rs) (hl : PH.le u u') : MatP u' v rs := by
 obtain ⟨es, h1, h2⟩ := h; exact ⟨es, h1.mono hl, h2.mono hl⟩
theorem MatP.opn {u : PH} {v : Value} {rs : List (List (List UInt8))} (h : MatP u v rs) : ∃ a c, v = .slice a rs.length c := by
 obtain ⟨es, h1, h2⟩ := h
 obtain ⟨a, c, rfl⟩ := h1.opn
 exact ⟨a, c, by rw [h2.1]⟩
theorem MatP.row {u : PH} {a : Option Addr} {n c j : Nat} {rs : List (List (List UInt8))} {r : List (List UInt8)} (h : MatP u (.slice a n c) rs) (hj : rs[j]? = some r) :
  ∃ b off a' c', a = some ⟨b, off, none⟩ ∧ ElP u b (off + j * 1) (.slice a' r.length c') ∧ StrsP u (.slice a' r.length c') r := by
 obtain ⟨es, h1, h2⟩ := h
 obtain ⟨a', c', e1, e2⟩ := h2.2 j r hj
 obtain ⟨b, off, rfl, e3⟩ := h1.at' e1
 exact ⟨b, off, a', c', rfl, e3, e2⟩
theorem indexFuncR {u : PH} {v : Value} {rs : List (List (List UInt8))} {fid : Nat} {cap : List Value} (h : MatP u v rs) (hl : rs.length ≤ 1000000)
  (hcall : ∀ args w, (callFunc fid args).run Tryz.prog w = .ok (.enter fid args) w) (hf : ∀ r ∈ rs, ∀ u' x, PH.le u u' → StrsP u' x r → Fn0 Tryz.prog fid (x :: cap) u' fun v _ => v = .bool false) :
  Fn0 Tryz.prog 150 [v, .func (.func fid) #[] cap.toArray] u fun v' _ => v' = .int .i64 (-1) := by
 obtain ⟨a, c, rfl⟩ := h.opn
 refine Fn0.of Tryz.func150 (by kernel_rfl) (by kernel_rfl) ?_
 refine G.loop (ι := Nat) (fun i => [(0, .v (.slice a rs.length c)), (1, .v (.func (.func fid) #[] cap.toArray)), (7, .v (.int .i64 (rs.length : Int))), (8, .v (.int .i64 (i : Int)))]) (fun _ => [])
  (fun i u' m' => i ≤ rs.length ∧ m' = PH.mt) (fun i => rs.length - i) 0 (by kernel_rfl) (fun _ => by kernel_rfl) ⟨by kernel_rfl, by kernel_rfl, by kernel_rfl⟩ ⟨by omega, rfl⟩ ?_
 rintro J k hJ u' m' hle ⟨hk, rfl⟩
 by_cases hlt : k < rs.length
 ·refine G.lssT (k : Int) (rs.length : Int) (by kernel_rfl) (by omega) ?_
  have htk : rs[k]? = some rs[k] := List.getElem?_eq_getElem hlt
  obtain ⟨ba, oa, a', c', rfl, ea, es⟩ := (h.mono hle).row htk
  refine G.addr ba oa rs.length c k 1 (by kernel_rfl) (by omega) ?_
  refine G.loadU none ba (oa + k * 1) (.slice a' rs[k].length c') (by kernel_rfl) (by kernel_rfl) ea ?_
  refine G.call0 fid (.slice a' rs[k].length c' :: cap) (by kernel_rfl) hcall (hf rs[k] (List.getElem_mem hlt) u' _ hle es) ?_
  rintro v1 u1 l1 rfl
  refine G.add (k : Int) 1 ((k + 1 : Nat) : Int) (by kernel_rfl) (by omega) (by omega) (by omega) ?_
  exact G.back (by kernel_rfl) (hJ (k + 1) _ _ _ ⟨by kernel_rfl, by kernel_rfl, by kernel_rfl⟩ (hle.trans l1) ⟨by omega, rfl⟩ (by omega))
 ·refine G.lssF (k : Int) (rs.length : Int) (by kernel_rfl) (by omega) ?_
  exact G.ret (.int .i64 (-1)) (by kernel_rfl) ⟨rfl, rfl⟩
theorem containsFuncR {u : PH} {v : Value} {rs : List (List (List UInt8))} {fid : Nat} {cap : List Value} (h : MatP u v rs) (hl : rs.length ≤ 1000000)
  (hcall : ∀ args w, (callFunc fid args).run Tryz.prog w = .ok (.enter fid args) w) (hf : ∀ r ∈ rs, ∀ u' x, PH.le u u' → StrsP u' x r → Fn0 Tryz.prog fid (x :: cap) u' fun v _ => v = .bool false) :
  Fn0 Tryz.prog 116 [v, .func (.func fid) #[] cap.toArray] u fun v' _ => v' = .bool false := by
 obtain ⟨a, c, rfl⟩ := h.opn
 refine Fn0.of Tryz.func116 (by kernel_rfl) (by kernel_rfl) ?_
 refine G.call0 _ _ (by kernel_rfl) Tryz.call150 (indexFuncR h hl hcall hf) ?_
 rintro v1 u1 l1 rfl
 refine G.geqF (-1) 0 (by kernel_rfl) (by omega) ?_
 exact G.ret (.bool false) (by kernel_rfl) ⟨rfl, rfl⟩
end Go.Proofs.YtldokelpolbnnaaGreatDoor
end
section
set_option linter.unusedSectionVars false
set_option linter.unusedVariables false
namespace Go.Proofs.YtldokelpolbnnaaGreatDoor
open Go.RowKit
theorem rows_ok {es : List Value} (h : ∀ e ∈ es, ∃ a n c, e = .slice a n c) : ElsOK 1 es := by
 intro e he
 obtain ⟨a, n, c, rfl⟩ := h e he
 exact ⟨rfl, fun x hx => by simp [Value.cells] at hx; subst hx; rfl⟩
theorem RowsAt.snoc {u : PH} {es : List Value} {rs : List (List (List UInt8))} {a : Option Addr} {c : Nat} {r : List (List UInt8)} (h : RowsAt u es rs) (he : StrsP u (.slice a r.length c) r) : RowsAt u (es ++ [.slice a r.length c]) (rs ++ [r]) := by
 refine ⟨by simp [h.1], fun j r' hj => ?_⟩
 by_cases hjl : j < rs.length
 ·rw [List.getElem?_append_left hjl] at hj
  obtain ⟨a', c', h1, h2⟩ := h.2 j r' hj
  exact ⟨a', c', by rw [List.getElem?_append_left (by rw [h.1]; exact hjl)]; exact h1, h2⟩
 ·rw [List.getElem?_append_right (by omega)] at hj
  have : j - rs.length = 0 := by
   rcases Nat.eq_zero_or_pos (j - rs.length) with h0 | h0
   ·exact h0
   ·rw [List.getElem?_eq_none (by simp; omega)] at hj; cases hj
  rw [this] at hj; simp at hj; subst hj
  refine ⟨a, c, ?_, he⟩
  rw [List.getElem?_append_right (by rw [h.1]; omega), h.1, this]; rfl
set_option maxHeartbeats 1000000 in
theorem column0 {u : PH} {v : Value} {ts : List (List UInt8)} (h : StrsP u v ts) (hl : ts.length ≤ 1000000) : Fn0 Tryz.prog 46 [v] u fun v' u' => MatP u' v' (ts.map fun t => [t]) := by
 obtain ⟨a, c, rfl⟩ := ListP.opn h
 rw [strsV_length] at h ⊢
 refine Fn0.of Tryz.func46 (by kernel_rfl) (by kernel_rfl) ?_
 refine G.loop (ι := Nat × List Value × (Option Addr × Nat × Nat)) (fun i => [(3, .v (.slice i.2.2.1 i.2.2.2.1 i.2.2.2.2)), (6, .v (.slice a ts.length c)), (7, .v (.int .i64 (ts.length : Int))), (8, .v (.int .i64 (i.1 : Int)))]) (fun _ => [])
  (fun i u' m' => i.1 ≤ ts.length ∧ RowsAt u' i.2.1 ((ts.take i.1).map fun t => [t]) ∧ ArrAt PH.mt m' (.slice i.2.2.1 i.2.2.2.1 i.2.2.2.2) 27 1 i.2.1) (fun i => ts.length - i.1) (0, [], (none, 0, 0)) (by kernel_rfl) (fun _ => by kernel_rfl) ⟨by kernel_rfl, by kernel_rfl, by kernel_rfl⟩ ⟨by simp, ⟨by simp, fun j q hj => by simp at hj⟩, ArrAt.nil _ _ _⟩ ?_
 rintro J ⟨k, es, ⟨a1, n1, c1⟩⟩ hJ u' m' hle ⟨hk, hF, hA⟩
 simp only at hk hF hA hJ
 have hel := hF.1
 rw [List.length_map, List.length_take] at hel
 by_cases hlt : k < ts.length
 ·refine G.lssT (k : Int) (ts.length : Int) (by kernel_rfl) (by omega) ?_
  have htk : ts[k]? = some ts[k] := List.getElem?_eq_getElem hlt
  obtain ⟨ba, oa, rfl, ea⟩ := ListP.at' (ListP.mono h hle) (j := k) (e := .string (mkS ts[k])) (by simp [strsV, htk])
  refine G.addr ba oa ts.length c k 1 (by kernel_rfl) (by omega) ?_
  refine G.loadU none ba (oa + k * 1) (.string (mkS ts[k])) (by kernel_rfl) (by kernel_rfl) ea ?_
  refine G.buildU 34 1 16 (.string (mkS [])) [.string (mkS ts[k])] (by kernel_rfl) (strsV_ok [ts[k]]) rfl (by omega) (by simp) (by simp) ?_
  intro g u2 l2 e2
  have hS : StrsP u2 (.slice (some ⟨g, 0, none⟩) 1 1) [ts[k]] := ⟨_, 1, rfl, Nat.le_refl _, fun j e hj => ⟨g, 0, rfl, e2 j e hj⟩⟩
  refine G.buildU 27 1 24 (.slice none 0 0) [.slice (some ⟨g, 0, none⟩) 1 1] (by kernel_rfl) (rows_ok (by intro e he; simp at he; exact ⟨_, _, _, he⟩)) rfl (by omega) (by simp) (by simp) ?_
  intro g3 u3 l3 e3
  refine G.append 27 1 24 (.slice none 0 0) PH.mt es [.slice (some ⟨g, 0, none⟩) 1 1] (.slice a1 n1 c1) g3 0 1 1 (by kernel_rfl) rfl rfl (by omega) hA e3 (rows_ok (by intro e he; simp at he; exact ⟨_, _, _, he⟩)) rfl (by omega) (by omega) (by omega) ?_
  intro v4 m4 hA4
  obtain ⟨a4, c4, rfl⟩ := hA4.shape
  refine G.add (k : Int) 1 ((k + 1 : Nat) : Int) (by kernel_rfl) (by omega) (by omega) (by omega) ?_
  refine G.back (by kernel_rfl) (hJ (k + 1, es ++ [Value.slice (some ⟨g, 0, none⟩) 1 1], (a4, (es ++ [Value.slice (some ⟨g, 0, none⟩) 1 1]).length, c4)) _ _ _ ⟨by kernel_rfl, by kernel_rfl, by kernel_rfl⟩ ((hle.trans l2).trans l3) ⟨by dsimp only; omega, ?_, hA4⟩ (by dsimp only; omega))
  dsimp only
  rw [List.take_add_one, htk, List.map_append]
  exact (hF.mono (l2.trans l3)).snoc (r := [ts[k]]) (ListP.mono hS l3)
 ·have : k = ts.length := by omega
  subst this
  refine G.lssF (ts.length : Int) (ts.length : Int) (by kernel_rfl) (by omega) ?_
  refine G.give PH.mt es _ (by kernel_rfl) hA (fun _ => .inl rfl) ?_
  intro u3 l3 hL
  rw [List.take_length] at hF
  exact G.ret (.slice a1 n1 c1) (by kernel_rfl) ⟨rfl, es, hL, hF.mono l3⟩
end Go.Proofs.YtldokelpolbnnaaGreatDoor
end
section
set_option linter.unusedSectionVars false
set_option linter.unusedVariables false
namespace Go.Proofs.YtldokelpolbnnaaGreatDoor
open Go.RowKit
def matT (A : List (List Rat)) : List (List (List UInt8)) := A.map fun r => r.map ratT
theorem ratT_zero : ratT 0 = [48] := by rw [ratT, if_pos (by rfl)]; exact itoa_zero
theorem ratT_one : ratT 1 = [49] := by rw [ratT, if_pos (by rfl)]; exact itoa_one
theorem rowBad1 {u : PH} {x : Value} {r : List (List UInt8)} (h : StrsP u x r) (hl : r.length ≤ 12) : Fn0 Tryz.prog 117 [x] u fun v _ => v = .bool false := by
 obtain ⟨a, c, rfl⟩ := ListP.opn h
 rw [strsV_length]
 refine Fn0.of Tryz.func117 (by kernel_rfl) (by kernel_rfl) ?_
 refine G.gtrF (r.length : Int) 12 (by kernel_rfl) (by omega) ?_
 exact G.ret (.bool false) (by kernel_rfl) ⟨rfl, rfl⟩
theorem rowBad3 {u : PH} {x : Value} {qs : List Rat} (h : StrsP u x (qs.map ratT)) (hq : ∀ q ∈ qs, Tx q) (hl : qs.length ≤ 1000000) : Fn0 Tryz.prog 119 [x] u fun v _ => v = .bool false := by
 obtain ⟨a, c, rfl⟩ := ListP.opn h
 refine Fn0.of Tryz.func119 (by kernel_rfl) (by kernel_rfl) ?_
 refine G.call0 _ _ (by kernel_rfl) Tryz.call120 (numbers0 h hq hl) ?_
 rintro v1 u1 l1 rfl
 exact G.ret (.bool false) (by kernel_rfl) ⟨rfl, rfl⟩
end Go.Proofs.YtldokelpolbnnaaGreatDoor
end
section
set_option linter.unusedSectionVars false
set_option linter.unusedVariables false
namespace Go.Proofs.YtldokelpolbnnaaGreatDoor
open Go.RowKit
def FnR (P : Program) (f : FuncId) (args : List Value) (u mc : PH) (R : Value → PH → Prop) : Prop := Contract P f args u mc (fun v u' m' => m' = mc ∧ R v u')
theorem mt_or (mc : PH) : PH.mt.or mc = mc := by funext g; rfl
theorem apart_mt (mc : PH) : Apart PH.mt mc := fun _ => .inl rfl
theorem rowBad2 {u mc : PH} {x : Value} {r : List (List UInt8)} {g n : Nat} {t : TypeId} (h : StrsP u x r) (hl : r.length = n) (hn : n ≤ 12) (hg : mc g = some (.cells #[.int .i64 (n : Int)] t (0, 0))) :
  FnR Tryz.prog 118 [x, .pointer (some ⟨g, 0, none⟩)] u mc fun v _ => v = .bool false := by
 obtain ⟨a, c, rfl⟩ := ListP.opn h
 rw [strsV_length]
 refine Contract.of Tryz.func118 (by kernel_rfl) (by kernel_rfl) ?_
 refine G.loadM none g 0 (.int .i64 (n : Int)) (by kernel_rfl) (by kernel_rfl) (fun i y hy => by
  match i, hy with
  | 0, hy => simp [Value.cells] at hy; subst hy; exact ⟨_, _, _, hg, rfl⟩) ?_
 refine G.neqF (r.length : Int) (n : Int) (by kernel_rfl) (by omega) ?_
 exact G.ret (.bool false) (by kernel_rfl) ⟨rfl, rfl⟩
theorem indexFuncM {u mc : PH} {v : Value} {rs : List (List (List UInt8))} {fid : Nat} {cap : List Value} (h : MatP u v rs) (hl : rs.length ≤ 1000000)
  (hcall : ∀ args w, (callFunc fid args).run Tryz.prog w = .ok (.enter fid args) w) (hf : ∀ r ∈ rs, ∀ u' x, PH.le u u' → StrsP u' x r → FnR Tryz.prog fid (x :: cap) u' mc fun v _ => v = .bool false) :
  FnR Tryz.prog 150 [v, .func (.func fid) #[] cap.toArray] u mc fun v' _ => v' = .int .i64 (-1) := by
 obtain ⟨a, c, rfl⟩ := h.opn
 refine Contract.of Tryz.func150 (by kernel_rfl) (by kernel_rfl) ?_
 refine G.loop (ι := Nat) (fun i => [(0, .v (.slice a rs.length c)), (1, .v (.func (.func fid) #[] cap.toArray)), (7, .v (.int .i64 (rs.length : Int))), (8, .v (.int .i64 (i : Int)))]) (fun _ => [])
  (fun i u' m' => i ≤ rs.length ∧ m' = mc) (fun i => rs.length - i) 0 (by kernel_rfl) (fun _ => by kernel_rfl) ⟨by kernel_rfl, by kernel_rfl, by kernel_rfl⟩ ⟨by omega, rfl⟩ ?_
 rintro J k hJ u' m' hle ⟨hk, rfl⟩
 by_cases hlt : k < rs.length
 ·refine G.lssT (k : Int) (rs.length : Int) (by kernel_rfl) (by omega) ?_
  have htk : rs[k]? = some rs[k] := List.getElem?_eq_getElem hlt
  obtain ⟨ba, oa, a', c', rfl, ea, es⟩ := (h.mono hle).row htk
  refine G.addr ba oa rs.length c k 1 (by kernel_rfl) (by omega) ?_
  refine G.loadU none ba (oa + k * 1) (.slice a' rs[k].length c') (by kernel_rfl) (by kernel_rfl) ea ?_
  refine G.callM fid (.slice a' rs[k].length c' :: cap) (by kernel_rfl) (by kernel_rfl) hcall (mt_or _).symm (apart_mt _) (hf rs[k] (List.getElem_mem hlt) u' _ hle es) ?_
  rintro v1 u1 mc1 l1 ⟨rfl, rfl⟩
  rw [mt_or]
  refine G.add (k : Int) 1 ((k + 1 : Nat) : Int) (by kernel_rfl) (by omega) (by omega) (by omega) ?_
  exact G.back (by kernel_rfl) (hJ (k + 1) _ _ _ ⟨by kernel_rfl, by kernel_rfl, by kernel_rfl⟩ (hle.trans l1) ⟨by omega, rfl⟩ (by omega))
 ·refine G.lssF (k : Int) (rs.length : Int) (by kernel_rfl) (by omega) ?_
  exact G.ret (.int .i64 (-1)) (by kernel_rfl) ⟨rfl, rfl⟩
theorem containsFuncM {u mc : PH} {v : Value} {rs : List (List (List UInt8))} {fid : Nat} {cap : List Value} (h : MatP u v rs) (hl : rs.length ≤ 1000000)
  (hcall : ∀ args w, (callFunc fid args).run Tryz.prog w = .ok (.enter fid args) w) (hf : ∀ r ∈ rs, ∀ u' x, PH.le u u' → StrsP u' x r → FnR Tryz.prog fid (x :: cap) u' mc fun v _ => v = .bool false) :
  FnR Tryz.prog 116 [v, .func (.func fid) #[] cap.toArray] u mc fun v' _ => v' = .bool false := by
 obtain ⟨a, c, rfl⟩ := h.opn
 refine Contract.of Tryz.func116 (by kernel_rfl) (by kernel_rfl) ?_
 refine G.callM _ _ (by kernel_rfl) (by kernel_rfl) Tryz.call150 (mt_or _).symm (apart_mt _) (indexFuncM h hl hcall hf) ?_
 rintro v1 u1 mc1 l1 ⟨rfl, rfl⟩
 rw [mt_or]
 refine G.geqF (-1) 0 (by kernel_rfl) (by omega) ?_
 exact G.ret (.bool false) (by kernel_rfl) ⟨rfl, rfl⟩
end Go.Proofs.YtldokelpolbnnaaGreatDoor
end
section
set_option linter.unusedSectionVars false
set_option linter.unusedVariables false
namespace Go.Proofs.YtldokelpolbnnaaGreatDoor
open Go.RowKit
section rules
variable {P : Program} [Mixed P] {fn : Func} {Post : Spec} {st : List KI × S} {u m : PH}
theorem G.storeM (sz b off : Nat) (t : TypeId) (cs : List Value) (e : Value) (h : stopV P (adv P st) = .store (some sz) (.pointer (some ⟨b, off, none⟩)) e) (hb : m b = some (.cells cs.toArray t (0, 0))) (ho : ∀ x ∈ cs, cellOK x = true) (hl : off + sz ≤ cs.length) (he : e.cells.size = sz) (hc : e.cells.toList.all cellOK = true)
  (k : G P fn Post (nx (adv P st) undef) u (m.upd b (.cells (cs.take off ++ e.cells.toList ++ cs.drop (off + sz)).toArray t (0, 0)))) : G P fn Post st u m := by
 refine G.big (K := fun v' u' m' => u' = u ∧ v' = undef ∧ m' = m.upd b (.cells (cs.take off ++ e.cells.toList ++ cs.drop (off + sz)).toArray t (0, 0))) h (by simp) (fun env op hv => ?_) (.inr fun env op hv => ?_) (fun env o hview w hgd => ?_) (fun v' u' m' _ hk => ?_)
 ·obtain ⟨t', X, Y, rfl, _⟩ := view_store hv; rfl
 ·obtain ⟨t', X, Y, rfl, _⟩ := view_store hv; rfl
 ·obtain ⟨t', X, Y, e1, e2, e3, ht⟩ := view_store hview
  obtain ⟨dst, opp, type, pos, after, guard⟩ := o
  simp only at e1; subst e1
  rw [List.all_eq_true] at hc
  have hgw := hgd.pm b _ hb
  have hst := run_storeCells_at P b off t e.cells.toList 0 cs.toArray w hgw (by simp [he]; omega) (fun x hx => cellOK_one (hc x hx))
  simp only [Nat.add_zero, Array.length_toList, he, List.toList_toArray] at hst
  have hcell : ∀ x ∈ (cs.take off ++ e.cells.toList ++ cs.drop (off + sz)).toArray.toList, cellOK x = true := by
   intro x hx
   simp only [List.toList_toArray, List.mem_append] at hx
   rcases hx with (hx | hx) | hx
   ·exact ho x (List.mem_of_mem_take hx)
   ·exact hc x hx
   ·exact ho x (List.mem_of_mem_drop hx)
  obtain ⟨g1, g2⟩ := hgd.setM hb hcell
  unfold OpDoes
  have hex : (execOp env ⟨dst, .store t' X Y, type, pos, after, guard⟩).run P w = .ok .skip (w.setRow b (cs.take off ++ e.cells.toList ++ cs.drop (off + sz)).toArray) := by
   simp only [execOp, e2, e3]
   simp only [List.append_assoc] at hst ⊢
   simp [Instr.storeAt, Instr.sureAddr, storeVar, run_sizeOf' ht, he, hst]
  rw [hex]
  exact ⟨u, _, g1, g2, rfl, rfl, rfl⟩
 ·obtain ⟨rfl, rfl, rfl⟩ := hk
  exact k
end rules
end Go.Proofs.YtldokelpolbnnaaGreatDoor
end
section
set_option linter.unusedSectionVars false
set_option linter.unusedVariables false
namespace Go.Proofs.YtldokelpolbnnaaGreatDoor
section rules
variable {P : Program} [Mixed P] {fn : Func} {Post : Spec} {st : List KI × S} {u m : PH}
theorem Rel.less {c : Cx} {s : S} {ρ : Nat → Nat} {a : Act} {w : World} (h : Rel c s u m ρ a w) {m' : PH} (hl : PH.le m' m) : Rel c s u m' ρ a w := by
 have hn : ∀ g, m g = none → m' g = none := fun g hg => by
  cases e : m' g with
  | none => rfl
  | some o => rw [hl g o e] at hg; cases hg
 refine ⟨h.sz, h.tm, h.df, fun k b hb => ?_, h.inj, h.lv, h.gd.less hl, ⟨h.gr.sz, h.gr.old, h.gr.us, fun g hg hm => hn g (h.gr.ms g hg hm), h.gr.io⟩⟩
 obtain ⟨e1, e2, e3, e4⟩ := h.box k b hb
 exact ⟨e1, e2, e3, hn _ e4⟩
theorem G.drop (m' : PH) (h : noReg (ctl P 100 st).1 = true) (hl : PH.le m' m) (k : G P fn Post (ctl P 100 st) u m') : G P fn Post st u m := by
 refine ⟨ctl_sound 100 st ?_⟩
 have hk := k.out
 rw [Sym.ofNo h] at hk ⊢
 intro c ρ a w hm0 hr
 exact hk c ρ a w hm0 (hr.less hl)
def ResOne (P : Program) (s : S) (m : PH) (r : ResultVar) (v : Value) : Prop :=
 resOne P s r = some v ∨ ∃ a t g off kd, r = .cell a t ∧ s.tm a = .v (.pointer (some ⟨g, off, none⟩)) ∧ ldKind P t = some kd ∧ elOK kd v = true ∧ ElP m g off v
def ResAll (P : Program) (s : S) (m : PH) : List ResultVar → List Value → Prop
 | [], [] => True
 | r :: rs, v :: vs => ResOne P s m r v ∧ ResAll P s m rs vs
 | _, _ => False
theorem run_ResOne {c : Cx} {s : S} {ρ : Nat → Nat} {a : Act} {w : World} (hr : Rel c s u m ρ a w) {r : ResultVar} {x : Value} (h : ResOne P s m r x) : (resSem a.tmps r).run P w = .ok x w := by
 rcases h with h | ⟨p, t, g, off, kd, rfl, h1, h2, h3, h4⟩
 ·exact run_resOne hr h
 ·have := hr.tm p (by rw [h1]; simp)
  rw [h1] at this
  simp [resSem, this, SV.den, asAddr, run_loadEl h2 h3 h4 hr.gd.pm]
theorem run_ResAll {c : Cx} {s : S} {ρ : Nat → Nat} {a : Act} {w : World} (hr : Rel c s u m ρ a w) {l : List Value} (h : ResAll P s m fn.results.toList l) : (results fn a.tmps).run P w = .ok (tupleOf l) w := by
 have key : ∀ (rs : List ResultVar) (l : List Value), ResAll P s m rs l → (rs.mapM (resSem a.tmps)).run P w = .ok l w := by
  intro rs
  induction rs with
  | nil => intro l h; cases l with | nil => simp | cons => exact h.elim
  | cons r rs ih =>
   intro l h
   cases l with
   | nil => exact h.elim
   | cons x xs =>
    rw [List.mapM_cons]
    simp only [Sem.run_bind, run_ResOne hr h.1, Result.andThen_ok, ih xs h.2, Sem.run_pure]
 have e : results fn a.tmps = (do let vs ← fn.results.mapM (resSem a.tmps); pure (if h : vs.size = 1 then vs[0] else .tuple vs)) := by
  unfold results; rfl
 rw [e, ← Array.toArray_toList (xs := fn.results), List.mapM_toArray]
 simp only [Sem.run_bind, Sem.run_map, key _ l h, Result.andThen_ok, Sem.run_pure]
 congr 1
 match l with
 | [] => rfl
 | [x] => rfl
 | x :: y :: l => rfl
def atRet (st : List KI × S) : Bool := match st.1 with
 | .code .ret :: _ => true
 | [] => true
 | _ => false
theorem G.retM (l : List Value) (m' : PH) (h : atRet (adv P st) = true) (hr : ResAll P (adv P st).2 m fn.results.toList l) (hl : PH.le m' m) (hp : Post.post (tupleOf l) u m') : G P fn Post st u m := by
 refine G.stp ?_
 generalize adv P st = st' at h hr
 obtain ⟨ks, s⟩ := st'
 unfold atRet at h
 simp only at h
 split at h
 ·refine ⟨?_⟩
  intro c ρ a w hm0 hrel
  have h2 := hrel.less hl
  exact wp_ret (cont_ret ⟨hrel.df, _, run_ResAll hrel hr, _, _, _, rfl, h2.gd, h2.gr, hp⟩ _)
 ·refine ⟨?_⟩
  intro c ρ a w hm0 hrel
  have h2 := hrel.less hl
  exact ⟨hrel.df, _, run_ResAll hrel hr, _, _, _, rfl, h2.gd, h2.gr, hp⟩
 ·cases h
theorem PH.mt_le (m : PH) : PH.le PH.mt m := fun _ _ h => by cases h
end rules
end Go.Proofs.YtldokelpolbnnaaGreatDoor
end
section
set_option linter.unusedSectionVars false
set_option linter.unusedVariables false
namespace Go.Proofs.YtldokelpolbnnaaGreatDoor
open Go.RowKit
theorem matT_length (A : List (List Rat)) : (matT A).length = A.length := by simp [matT]
theorem matT_at {A : List (List Rat)} {j : Nat} {r : List Rat} (h : A[j]? = some r) : (matT A)[j]? = some (r.map ratT) := by simp [matT, h]
theorem matT_mem {A : List (List Rat)} {r : List (List UInt8)} (h : r ∈ matT A) : ∃ q ∈ A, r = q.map ratT := by
 simp only [matT, List.mem_map] at h
 obtain ⟨q, h1, rfl⟩ := h
 exact ⟨q, h1, rfl⟩
theorem elP_int (m : PH) (g : Nat) (z : Int) (t : TypeId) : ElP (m.upd g (.cells [Value.int .i64 z].toArray t (0, 0))) g 0 (.int .i64 z) := fun i y hy => by
 match i, hy with
 | 0, hy => simp [Value.cells] at hy; subst hy; exact ⟨_, _, _, upd_same _ _ _, rfl⟩
set_option maxHeartbeats 1000000 in
theorem shape0 {u : PH} {v : Value} {A : List (List Rat)} {k : Nat} (h : MatP u v (matT A)) (hn : A.length ≤ 12) (hk : k ≤ 12) (hr : ∀ r ∈ A, r.length = k) (h0 : A.length = 0 → k = 0) (hT : ∀ r ∈ A, ∀ q ∈ r, Tx q) :
  Fn0 Tryz.prog 74 [v] u fun v' _ => v' = .tuple #[.int .i64 (A.length : Int), .int .i64 (k : Int), .int .i64 0] := by
 obtain ⟨a, c, rfl⟩ := h.opn
 rw [matT_length] at h ⊢
 refine Fn0.of Tryz.func74 (by kernel_rfl) (by kernel_rfl) ?_
 refine G.gtrF (A.length : Int) 12 (by kernel_rfl) (by omega) ?_
 refine G.call0 _ _ (by kernel_rfl) Tryz.call116 (containsFuncR (fid := 117) (cap := []) h (by rw [matT_length]; omega) Tryz.call117 (fun r hr' u' x _ hx => ?_)) ?_
 ·obtain ⟨q, hq, rfl⟩ := matT_mem hr'
  exact rowBad1 hx (by rw [List.length_map, hr q hq]; omega)
 rintro v1 u1 l1 rfl
 have hlen : ∀ r ∈ matT A, r.length = k := fun r hr' => by
  obtain ⟨q, hq, rfl⟩ := matT_mem hr'
  rw [List.length_map, hr q hq]
 by_cases hpos : 0 < A.length
 ·refine G.gtrT (A.length : Int) 0 (by kernel_rfl) (by omega) ?_
  have htk : A[0]? = some A[0] := List.getElem?_eq_getElem hpos
  obtain ⟨ba, oa, a', c', rfl, ea, es⟩ := (h.mono l1).row (matT_at htk)
  rw [List.length_map, hr _ (List.getElem_mem hpos)] at ea
  refine G.addr ba oa A.length c 0 1 (by kernel_rfl) (by omega) ?_
  refine G.loadU none ba (oa + 0 * 1) (.slice a' k c') (by kernel_rfl) (by kernel_rfl) ea ?_
  refine G.pub 1 3 [.int .i64 (k : Int)] (by kernel_rfl) (by kernel_rfl) ?_
  intro g hu hm
  refine G.callM _ _ (by kernel_rfl) (by kernel_rfl) Tryz.call116 (mt_or _).symm (apart_mt _) (containsFuncM (fid := 118) (cap := [.pointer (some ⟨g, 0, none⟩)]) (h.mono l1) (by rw [matT_length]; omega) Tryz.call118 (fun r hr' u' x _ hx => rowBad2 hx (hlen r hr') hk (upd_same _ _ _))) ?_
  rintro v2 u2 mc2 l2 ⟨rfl, rfl⟩
  rw [mt_or]
  refine G.call0 _ _ (by kernel_rfl) Tryz.call116 (containsFuncR (fid := 119) (cap := []) (h.mono (l1.trans l2)) (by rw [matT_length]; omega) Tryz.call119 (fun r hr' u' x _ hx => ?_)) ?_
  ·obtain ⟨q, hq, rfl⟩ := matT_mem hr'
   exact rowBad3 hx (hT q hq) (by rw [hr q hq]; omega)
  rintro v3 u3 l3 rfl
  refine G.loadM none g 0 (.int .i64 (k : Int)) (by kernel_rfl) (by kernel_rfl) (elP_int _ _ _ _) ?_
  refine G.storeM 1 g 0 3 [.int .i64 (k : Int)] (.int .i64 (k : Int)) (by kernel_rfl) (upd_same _ _ _) (fun x hx => by simp at hx; subst hx; rfl) (by simp) rfl rfl ?_
  exact G.retM [.int .i64 (A.length : Int), .int .i64 (k : Int), .int .i64 0] PH.mt (by kernel_rfl) ⟨.inl (by kernel_rfl), .inr ⟨3, 3, g, 0, none, rfl, by kernel_rfl, by kernel_rfl, rfl, elP_int _ _ _ _⟩, .inl (by kernel_rfl), trivial⟩ (PH.mt_le _) ⟨rfl, rfl⟩
 ·refine G.gtrF (A.length : Int) 0 (by kernel_rfl) (by omega) ?_
  obtain rfl : k = 0 := h0 (by omega)
  refine G.pub 1 3 [.int .i64 ((0 : Nat) : Int)] (by kernel_rfl) (by kernel_rfl) ?_
  intro g hu hm
  refine G.callM _ _ (by kernel_rfl) (by kernel_rfl) Tryz.call116 (mt_or _).symm (apart_mt _) (containsFuncM (fid := 118) (cap := [.pointer (some ⟨g, 0, none⟩)]) (h.mono l1) (by rw [matT_length]; omega) Tryz.call118 (fun r hr' u' x _ hx => rowBad2 hx (hlen r hr') hk (upd_same _ _ _))) ?_
  rintro v2 u2 mc2 l2 ⟨rfl, rfl⟩
  rw [mt_or]
  refine G.call0 _ _ (by kernel_rfl) Tryz.call116 (containsFuncR (fid := 119) (cap := []) (h.mono (l1.trans l2)) (by rw [matT_length]; omega) Tryz.call119 (fun r hr' u' x _ hx => ?_)) ?_
  ·obtain ⟨q, hq, rfl⟩ := matT_mem hr'
   exact rowBad3 hx (hT q hq) (by rw [hr q hq]; omega)
  rintro v3 u3 l3 rfl
  refine G.loadM none g 0 (.int .i64 ((0 : Nat) : Int)) (by kernel_rfl) (by kernel_rfl) (elP_int _ _ _ _) ?_
  refine G.storeM 1 g 0 3 [.int .i64 ((0 : Nat) : Int)] (.int .i64 ((0 : Nat) : Int)) (by kernel_rfl) (upd_same _ _ _) (fun x hx => by simp at hx; subst hx; rfl) (by simp) rfl rfl ?_
  exact G.retM [.int .i64 (A.length : Int), .int .i64 ((0 : Nat) : Int), .int .i64 0] PH.mt (by kernel_rfl) ⟨.inl (by kernel_rfl), .inr ⟨3, 3, g, 0, none, rfl, by kernel_rfl, by kernel_rfl, rfl, elP_int _ _ _ _⟩, .inl (by kernel_rfl), trivial⟩ (PH.mt_le _) ⟨rfl, rfl⟩
end Go.Proofs.YtldokelpolbnnaaGreatDoor
end
section
set_option linter.unusedSectionVars false
set_option linter.unusedVariables false
namespace Go.Proofs.YtldokelpolbnnaaGreatDoor
open Go.RowKit
theorem MatP.cell {u : PH} {a : Option Addr} {n c i j : Nat} {A : List (List Rat)} (h : MatP u (.slice a n c) (matT A)) (hi : i < A.length) (hj : j < A[i].length) :
  ∃ b off b' off' c', a = some ⟨b, off, none⟩ ∧ ElP u b (off + i * 1) (.slice (some ⟨b', off', none⟩) A[i].length c') ∧ ElP u b' (off' + j * 1) (.string (mkS (ratT A[i][j]))) := by
 obtain ⟨b, off, a', c', rfl, e1, e2⟩ := h.row (matT_at (List.getElem?_eq_getElem hi))
 rw [List.length_map] at e1 e2
 obtain ⟨b', off', rfl, e3⟩ := ListP.at' e2 (j := j) (e := .string (mkS (ratT A[i][j]))) (by simp [strsV, List.getElem?_eq_getElem hj])
 exact ⟨b, off, b', off', c', rfl, e1, e3⟩
structure Sq (A : List (List Rat)) : Prop where
 le : A.length ≤ 12
 row : ∀ r ∈ A, r.length = A.length
 tx : ∀ r ∈ A, ∀ q ∈ r, Tx q
theorem Sq.len {A : List (List Rat)} (h : Sq A) {i : Nat} (hi : i < A.length) : A[i].length = A.length := h.row _ (List.getElem_mem hi)
theorem Sq.tx' {A : List (List Rat)} (h : Sq A) {i j : Nat} (hi : i < A.length) (hj : j < A[i].length) : Tx A[i][j] := h.tx _ (List.getElem_mem hi) _ (List.getElem_mem hj)
def SymM (A : List (List Rat)) : Prop := ∀ (i k : Nat) (hi : i < A.length) (hk : k < A.length) (h1 : k < A[i].length) (h2 : i < A[k].length), A[i][k] = A[k][i]
theorem shapeSq {u : PH} {v : Value} {A : List (List Rat)} (h : MatP u v (matT A)) (hs : Sq A) : Fn0 Tryz.prog 74 [v] u fun v' _ => v' = .tuple #[.int .i64 (A.length : Int), .int .i64 (A.length : Int), .int .i64 0] :=
 shape0 h hs.le hs.le hs.row (fun h => h) hs.tx
set_option maxHeartbeats 1000000 in
theorem symmetric0 {u : PH} {v : Value} {A : List (List Rat)} (h : MatP u v (matT A)) (hs : Sq A) (hy : SymM A) : Fn0 Tryz.prog 80 [v] u fun v' _ => v' = .bool true := by
 obtain ⟨a, c, rfl⟩ := h.opn
 rw [matT_length] at h ⊢
 have hle := hs.le
 refine Fn0.of Tryz.func80 (by kernel_rfl) (by kernel_rfl) ?_
 refine G.call0 _ _ (by kernel_rfl) Tryz.call74 (shapeSq h hs) ?_
 rintro v1 u1 l1 rfl
 refine G.neqF 0 0 (by kernel_rfl) (by omega) ?_
 refine G.neqF (A.length : Int) (A.length : Int) (by kernel_rfl) (by omega) ?_
 refine G.loop (ι := Nat) (fun i => [(0, .v (.slice a A.length c)), (22, .v (.int .i64 (A.length : Int))), (23, .v (.int .i64 (i : Int)))]) (fun _ => [])
  (fun i u' m' => i ≤ A.length ∧ m' = PH.mt) (fun i => A.length - i) 0 (by kernel_rfl) (fun _ => by kernel_rfl) ⟨by kernel_rfl, by kernel_rfl, by kernel_rfl⟩ ⟨by omega, rfl⟩ ?_
 rintro J i hJ u2 m2 l2 ⟨hi, rfl⟩
 by_cases hlt : i < A.length
 ·refine G.lssT (i : Int) (A.length : Int) (by kernel_rfl) (by omega) ?_
  refine G.loop (ι := Nat) (fun k => [(0, .v (.slice a A.length c)), (22, .v (.int .i64 (A.length : Int))), (23, .v (.int .i64 (i : Int))), (6, .v (.int .i64 (i : Int))), (26, .v (.int .i64 (i : Int))), (27, .v (.int .i64 (k : Int)))]) (fun _ => [])
   (fun k u' m' => k ≤ i ∧ m' = PH.mt) (fun k => i - k) 0 (by kernel_rfl) (fun _ => by kernel_rfl) ⟨by kernel_rfl, by kernel_rfl, by kernel_rfl⟩ ⟨by omega, rfl⟩ ?_
  rintro J2 k hJ2 u3 m3 l3 ⟨hk, rfl⟩
  by_cases hlt2 : k < i
  ·refine G.lssT (k : Int) (i : Int) (by kernel_rfl) (by omega) ?_
   have hkl : k < A.length := by omega
   have hki : k < A[i].length := by rw [hs.len hlt]; omega
   have hik : i < A[k].length := by rw [hs.len hkl]; omega
   have hM := h.mono (l1.trans (l2.trans l3))
   obtain ⟨b1, o1, b2, o2, c2, rfl, e1, e2⟩ := hM.cell hlt hki
   refine G.addr b1 o1 A.length c i 1 (by kernel_rfl) (by omega) ?_
   refine G.loadU none b1 (o1 + i * 1) _ (by kernel_rfl) (by kernel_rfl) e1 ?_
   refine G.addr b2 o2 A[i].length c2 k 1 (by kernel_rfl) hki ?_
   refine G.loadU none b2 (o2 + k * 1) _ (by kernel_rfl) (by kernel_rfl) e2 ?_
   obtain ⟨b3, o3, b4, o4, c4, e0, e3, e4⟩ := hM.cell hkl hik
   cases e0
   refine G.addr b1 o1 A.length c k 1 (by kernel_rfl) (by omega) ?_
   refine G.loadU none b1 (o1 + k * 1) _ (by kernel_rfl) (by kernel_rfl) e3 ?_
   refine G.addr b4 o4 A[k].length c4 i 1 (by kernel_rfl) hik ?_
   refine G.loadU none b4 (o4 + i * 1) _ (by kernel_rfl) (by kernel_rfl) e4 ?_
   refine G.neSF (ratT A[i][k]) (ratT A[k][i]) (by kernel_rfl) (by rw [hy i k hlt hkl hki hik]) ?_
   refine G.add (k : Int) 1 ((k + 1 : Nat) : Int) (by kernel_rfl) (by omega) (by omega) (by omega) ?_
   exact G.back (by kernel_rfl) (hJ2 (k + 1) _ _ _ ⟨by kernel_rfl, by kernel_rfl, by kernel_rfl⟩ l3 ⟨by omega, rfl⟩ (by omega))
  ·refine G.lssF (k : Int) (i : Int) (by kernel_rfl) (by omega) ?_
   refine G.add (i : Int) 1 ((i + 1 : Nat) : Int) (by kernel_rfl) (by omega) (by omega) (by omega) ?_
   exact G.back (by kernel_rfl) (hJ (i + 1) _ _ _ ⟨by kernel_rfl, by kernel_rfl, by kernel_rfl⟩ (l2.trans l3) ⟨by omega, rfl⟩ (by omega))
 ·refine G.lssF (i : Int) (A.length : Int) (by kernel_rfl) (by omega) ?_
  exact G.ret (.bool true) (by kernel_rfl) ⟨rfl, rfl⟩
theorem begin0 {u : PH} {v : Value} {A : List (List Rat)} (h : MatP u v (matT A)) (hs : Sq A) (hy : SymM A) : Fn0 Tryz.prog 42 [v] u fun v' _ => v' = .int .i64 0 := by
 obtain ⟨a, c, rfl⟩ := h.opn
 rw [matT_length] at h ⊢
 refine Fn0.of Tryz.func42 (by kernel_rfl) (by kernel_rfl) ?_
 refine G.call0 _ _ (by kernel_rfl) Tryz.call74 (shapeSq h hs) ?_
 rintro v1 u1 l1 rfl
 refine G.eqlT 0 0 (by kernel_rfl) (by omega) ?_
 refine G.call0 _ _ (by kernel_rfl) Tryz.call80 (symmetric0 (h.mono l1) hs hy) ?_
 rintro v2 u2 l2 rfl
 exact G.ret (.int .i64 0) (by kernel_rfl) ⟨rfl, rfl⟩
end Go.Proofs.YtldokelpolbnnaaGreatDoor
end
