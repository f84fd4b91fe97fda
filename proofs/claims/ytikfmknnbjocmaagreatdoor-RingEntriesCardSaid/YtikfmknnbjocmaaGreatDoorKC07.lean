/- Joined out of parts of one proof by a program: contracts of the functions that the statement reaches, and the plain facts behind them. -/
import Derived.Test.YtikfmknnbjocmaaGreatDoorKC06
import Derived.Lib.AtoiErrMem
import Derived.Lib.ConvBytes
import Derived.MapKept
import Derived.Laws.IdiomRangeMap
set_option linter.unusedVariables false
set_option linter.unusedSimpArgs false
set_option linter.unusedSectionVars false
section
set_option linter.unusedVariables false
namespace Go.Proofs.YtikfmknnbjocmaaGreatDoor
open Go.Shelf Go.RowKit Go.Sort Go.Lib
set_option maxRecDepth 100000 in
theorem formatUintS_any (u : Nat) (hu64 : u < 18446744073709551616) (w : World) (htab : Lib.TabIs Tryz.prog w "internal/strconv.uint64pow10" .u64 Lib.pow10Tab) :
    Calls Tryz.prog 159 #[.int .u64 u, .int .i64 10] w fun e w' => e = .returned (.string ⟨(Lib.decDigits u).toArray⟩) ∧ Ext w w' := by
  go_enter Tryz.func159, Tryz.ntmps159
  go_wp2_with fail
  refine (formatUint_any u hu64 _ htab).mono ?_
  rintro e w' ⟨rfl, hx⟩
  go_wp2_with fail
  go_ret
  exact ⟨rfl, hx⟩
def StrRel (W0 : World) (B : Nat) (neg : Bool) (n : Nat) (i : Value) (wr : World) : Prop :=
  ∃ k : Nat, k ≤ (limbs n).length ∧ i = .int .i64 ((k : Int) - 1) ∧ IsBuilder 222 5 B B (byteCells (textTo neg n k)) wr ∧ Below B W0 wr
theorem byteCells_append (l l' : List UInt8) : byteCells l ++ byteCells l' = byteCells (l ++ l') := by simp [byteCells]
set_option maxRecDepth 100000 in
set_option maxHeartbeats 400000 in
theorem numString_any (v : Value) (z : Int) (w : World) (hv : NumV w v z) (hs : nl z.natAbs ≤ 100000000000) (htab : Lib.TabIs Tryz.prog w "internal/strconv.uint64pow10" .u64 Lib.pow10Tab) :
    Calls Tryz.prog 160 #[v] w fun e w' => e = .returned (.string ⟨(Lib.itoa z).toArray⟩) ∧ Ext w w' := by
  obtain ⟨a, n, c, rfl, hn⟩ := hv
  obtain ⟨a', c', e, hcap, hrow⟩ := hn
  simp only [Value.slice.injEq] at e
  obtain ⟨rfl, rfl, rfl⟩ := e
  have hlen : (limbs z.natAbs).length ≤ 100000000000 := hs
  by_cases hz : z = 0
  · subst hz
    rw [show (limbs (0 : Int).natAbs).length = 0 by rw [show (0 : Int).natAbs = 0 from rfl, limbs_zero]; rfl]
    clear hrow hcap hlen
    go_enter Tryz.func160, Tryz.ntmps160
    go_wp2_with fail
    go_ret
    exact ⟨by rw [itoa_zero]; rfl, Ext.alloc (Ext.refl w) _⟩
  · have hp : 0 < (limbs z.natAbs).length := len_pos.2 (by omega)
    obtain ⟨L, hL⟩ : ∃ L, L = (limbs z.natAbs).length := ⟨_, rfl⟩
    rw [← hL] at hp hlen ⊢
    have HL := Lib.hid hL
    have HROW := Lib.hid hrow
    have HTAB := Lib.hid htab
    clear hL hrow htab hcap
    obtain ⟨neg, hneg⟩ : ∃ neg, neg = decide (z < 0) := ⟨_, rfl⟩
    rw [← hneg]
    have HNEG := Lib.hid hneg
    clear hneg
    obtain ⟨w1, hw1⟩ : ∃ w1, w1 = w.alloc (Obj.cells #[Value.bool neg, Value.slice a L c] 86) := ⟨_, rfl⟩
    have hs1 : w1.heap.size = w.heap.size + 1 := by rw [hw1]; exact size_alloc' _ _
    have HX1 : RowKit.Hid (Ext w w1) := Lib.hid (by rw [hw1]; exact Ext.alloc (Ext.refl w) _)
    have HB0 := Lib.hid (Lib.fresh_isBuilder 222 5 w1)
    have HW1 := Lib.hid hw1
    have HS1 := Lib.hid hs1
    clear hw1 hs1
    cases neg
    · go_enter Tryz.func160, Tryz.ntmps160
      go_wp2_with fail
      rw [← HW1.out, ← HS1.out, show ((L : Int) == 0) = false by rw [beq_eq_false_iff_ne]; omega]
      go_loopw [4] (StrRel (w1.alloc (Obj.cells #[Value.pointer none, Value.slice none 0 0] 222)) w1.heap.size false z.natAbs) (fun i _ => (RowKit.intOf i + 1).toNat)
      case atStart => exact ⟨(limbs z.natAbs).length, Nat.le_refl _, by rw [← HL.out], by rw [textTo_len]; exact HB0.out, Below.refl _ _⟩
      case round =>
        obtain ⟨k, hk, rfl, hbd, hbel⟩ := hrel
        have hsz0 := hbel.size
        rw [size_alloc'] at hsz0
        have HXW : RowKit.Hid (Ext w wr) := Lib.hid (Ext.trans HX1.out (Below.trans (Ext.alloc (Ext.refl w1) (Obj.cells #[Value.pointer none, Value.slice none 0 0] 222)) hbel))
        rcases k with _ | k
        · have hne : textTo false z.natAbs 0 ≠ [] := by rw [HNEG.out, textTo_end z hz, itoa_signed, signed]; split; simp; exact dec_ne_nil _
          have HBD := Lib.hid hbd
          clear hbd
          go_wp2_with fail
          refine (Tryz.Builder_String w1.heap.size w1.heap.size (textTo false z.natAbs 0) wr HBD.out hne).mono ?_
          rintro e w2 ⟨rfl, hb2⟩
          go_wp2_with fail
          go_ret
          refine ⟨?_, Below.trans HXW.out ?_⟩
          · rw [HNEG.out, textTo_end z hz]; rfl
          · exact Below.mono hb2 (by have := HS1.out; omega)
        · have hsz1 : w.heap.size < w1.heap.size := by rw [HS1.out]; omega
          have hc1 : wr.cell? ⟨w.heap.size, 1, none⟩ = some (.slice a L c) := by
            rw [Below.cell hbel hsz1, Below.cell (Ext.alloc (Ext.refl w1) _) hsz1, HW1.out, World.cell?_alloc_new]; rfl
          obtain ⟨ba, offa, rfl, hca⟩ := HROW.out.at (j := k) (by omega)
          have hcb := HXW.out.cell hca
          clear hca
          have hlow : (limbs z.natAbs).getD k 0 < 1000000000 := (low_limbs _).getD k
          obtain ⟨x, hx⟩ : ∃ x, x = (limbs z.natAbs).getD k 0 := ⟨_, rfl⟩
          rw [← hx] at hcb hlow
          have XX := Lib.hid hx
          have HBD := Lib.hid hbd
          have HBEL := Lib.hid hbel
          have HK := Lib.hid hk
          clear hx hbd hbel hk hsz1
          rw [show ((k + 1 : Nat) : Int) - 1 = k by omega]
          have hkL : k < L := by have := HK.out; have := HL.out; omega
          have hsw : (textTo false z.natAbs (k + 1)).length ≤ 1 + 9 * L + 1 := by have := textTo_size false z.natAbs (k + 1); rw [← HL.out] at this; exact this
          have hd9 := nDigits_le9 hlow
          have hdl := decDigits_length x
          have HSW := Lib.hid hsw
          have HDL := Lib.hid hdl
          have HD9 := Lib.hid hd9
          clear hsw hdl hd9
          by_cases htop : k + 1 = L
          · have hkt : ¬ ((k : Int) < (L : Int) - 1) := by omega
            have HTOP := Lib.hid htop
            clear htop
            go_wp2_with fail
            refine (formatUintS_any x (by omega) _ (tabIs_ext HTAB.out HXW.out)).mono ?_
            rintro e w2 ⟨rfl, hx2⟩
            have HX2 := Lib.hid hx2
            clear hx2
            have hc2 := HX2.out.cell hc1
            clear hc1 hcb
            go_wp2_with fail
            refine (writeString_any w1.heap.size w1.heap.size (byteCells (textTo false z.natAbs (k + 1))) ⟨(decDigits x).toArray⟩ w2 (isBuilder_ext HBD.out HX2.out) (by rw [byteCells_length, Lib.size_mk, HDL.out]; have := HSW.out; have := HD9.out; omega) (by have := HX2.out.size; omega)).mono ?_
            rintro e w3 ⟨rfl, hb3, hbel3⟩
            have htx := textTo_top (neg := false) (n := z.natAbs) (k := k) (by rw [← HL.out]; exact HTOP.out)
            rw [← XX.out] at htx
            rw [strCells_toArray, byteCells_append, ← htx] at hb3
            go_wp2_with fail
            refine ⟨⟨k, by rw [← HL.out]; omega, by go_num, .inr hb3, Below.trans HBEL.out (Below.trans (Below.mono HX2.out (by omega)) hbel3)⟩, by simp only [RowKit.intOf]; omega⟩
          · have hkt : (k : Int) < (L : Int) - 1 := by omega
            have HTOP := Lib.hid htop
            clear htop
            go_wp2_with fail
            refine (formatUintS_any x (by omega) _ (tabIs_ext HTAB.out HXW.out)).mono ?_
            rintro e w2 ⟨rfl, hx2⟩
            have HX2 := Lib.hid hx2
            clear hx2
            have hc2 := HX2.out.cell hc1
            clear hc1 hcb
            have hsl : (⟨(decDigits x).toArray⟩ : ByteArray).size = nDigits x := by rw [Lib.size_mk]; exact HDL.out
            go_wp2_with fail
            rw [show wrap64 (9 - (nDigits x : Int)) = ((9 - nDigits x : Nat) : Int) by have := HD9.out; unfold wrap64; omega]
            have hrep := Tryz.strings_Repeat ⟨#[48]⟩ (9 - nDigits x) w2 (by omega) (by have := HD9.out; simp [ByteArray.size]; omega)
            refine hrep.mono ?_
            rintro e w4 ⟨rfl, hx4⟩
            have HX4 : RowKit.Hid (Ext w2 w4) := Lib.hid hx4
            clear hx4 hrep
            go_wp2_with fail
            refine (writeString_any w1.heap.size w1.heap.size (byteCells (textTo false z.natAbs (k + 1))) ⟨(repeatL [48] (9 - nDigits x)).toArray⟩ w4 (isBuilder_ext (isBuilder_ext HBD.out HX2.out) HX4.out) (by rw [byteCells_length, Lib.size_mk, repeatL_zero, List.length_replicate]; have := HSW.out; omega) (by have := HX2.out.size; have := HX4.out.size; omega)).mono ?_
            rintro e w5 ⟨rfl, hb5, hbel5⟩
            rw [strCells_toArray, byteCells_append] at hb5
            go_wp2_with fail
            refine (writeString_any w1.heap.size w1.heap.size _ ⟨(decDigits x).toArray⟩ w5 (.inr hb5) (by rw [byteCells_length, Lib.size_mk, HDL.out, List.length_append, repeatL_zero, List.length_replicate]; have := HSW.out; have := HD9.out; omega) (by have := HX2.out.size; have := HX4.out.size; have := hbel5.size; omega)).mono ?_
            rintro e w3 ⟨rfl, hb3, hbel3⟩
            have htx := textTo_low (neg := false) (n := z.natAbs) (k := k) (by rw [← HL.out]; have := HTOP.out; omega)
            rw [← XX.out] at htx
            rw [strCells_toArray, byteCells_append, List.append_assoc, ← htx] at hb3
            have h6 := HX2.out.size
            go_wp2_with fail
            refine ⟨⟨k, by rw [← HL.out]; omega, by go_num, .inr hb3, Below.trans HBEL.out (Below.trans (Below.mono HX2.out (by omega)) (Below.trans (Below.mono HX4.out (by omega)) (Below.trans hbel5 hbel3)))⟩, by simp only [RowKit.intOf]; omega⟩
    · go_enter Tryz.func160, Tryz.ntmps160
      go_wp2_with fail
      rw [← HW1.out, ← HS1.out, show ((L : Int) == 0) = false by rw [beq_eq_false_iff_ne]; omega]
      refine (writeString_any w1.heap.size w1.heap.size [] ⟨#[45]⟩ _ HB0.out (by simp [ByteArray.size]) (by rw [size_alloc']; omega)).mono ?_
      rintro e w4 ⟨rfl, hb4, hbel4⟩
      have HB4 : RowKit.Hid (BuilderAt 222 5 w1.heap.size w1.heap.size (.pointer (some ⟨w1.heap.size, 0, none⟩)) (byteCells [45]) w4) := Lib.hid hb4
      have HBEL4 := Lib.hid hbel4
      have hs4 := hbel4.size
      rw [size_alloc'] at hs4
      have hc0 : w4.cell? ⟨w.heap.size, 1, none⟩ = some (.slice a L c) := by
        have hsz1 : w.heap.size < w1.heap.size := by rw [HS1.out]; omega
        rw [Below.cell hbel4 hsz1, Below.cell (Ext.alloc (Ext.refl w1) _) hsz1, HW1.out, World.cell?_alloc_new]; rfl
      clear hb4 hbel4
      go_wp2_with fail
      go_loopw [4] (StrRel (w1.alloc (Obj.cells #[Value.pointer none, Value.slice none 0 0] 222)) w1.heap.size true z.natAbs) (fun i _ => (RowKit.intOf i + 1).toNat)
      case atStart => exact ⟨(limbs z.natAbs).length, Nat.le_refl _, by rw [← HL.out], by rw [textTo_len]; exact .inr HB4.out, HBEL4.out⟩
      case round =>
        obtain ⟨k, hk, rfl, hbd, hbel⟩ := hrel
        have hsz0 := hbel.size
        rw [size_alloc'] at hsz0
        have HXW : RowKit.Hid (Ext w wr) := Lib.hid (Ext.trans HX1.out (Below.trans (Ext.alloc (Ext.refl w1) (Obj.cells #[Value.pointer none, Value.slice none 0 0] 222)) hbel))
        rcases k with _ | k
        · have hne : textTo true z.natAbs 0 ≠ [] := by rw [HNEG.out, textTo_end z hz, itoa_signed, signed]; split; simp; exact dec_ne_nil _
          have HBD := Lib.hid hbd
          clear hbd
          go_wp2_with fail
          refine (Tryz.Builder_String w1.heap.size w1.heap.size (textTo true z.natAbs 0) wr HBD.out hne).mono ?_
          rintro e w2 ⟨rfl, hb2⟩
          go_wp2_with fail
          go_ret
          refine ⟨?_, Below.trans HXW.out ?_⟩
          · rw [HNEG.out, textTo_end z hz]; rfl
          · exact Below.mono hb2 (by have := HS1.out; omega)
        · have hsz1 : w.heap.size < w1.heap.size := by rw [HS1.out]; omega
          have hc1 : wr.cell? ⟨w.heap.size, 1, none⟩ = some (.slice a L c) := by
            rw [Below.cell hbel hsz1, Below.cell (Ext.alloc (Ext.refl w1) _) hsz1, HW1.out, World.cell?_alloc_new]; rfl
          obtain ⟨ba, offa, rfl, hca⟩ := HROW.out.at (j := k) (by omega)
          have hcb := HXW.out.cell hca
          clear hca
          have hlow : (limbs z.natAbs).getD k 0 < 1000000000 := (low_limbs _).getD k
          obtain ⟨x, hx⟩ : ∃ x, x = (limbs z.natAbs).getD k 0 := ⟨_, rfl⟩
          rw [← hx] at hcb hlow
          have XX := Lib.hid hx
          have HBD := Lib.hid hbd
          have HBEL := Lib.hid hbel
          have HK := Lib.hid hk
          clear hx hbd hbel hk hsz1
          rw [show ((k + 1 : Nat) : Int) - 1 = k by omega]
          have hkL : k < L := by have := HK.out; have := HL.out; omega
          have hsw : (textTo true z.natAbs (k + 1)).length ≤ 1 + 9 * L + 1 := by have := textTo_size true z.natAbs (k + 1); rw [← HL.out] at this; exact this
          have hd9 := nDigits_le9 hlow
          have hdl := decDigits_length x
          have HSW := Lib.hid hsw
          have HDL := Lib.hid hdl
          have HD9 := Lib.hid hd9
          clear hsw hdl hd9
          by_cases htop : k + 1 = L
          · have hkt : ¬ ((k : Int) < (L : Int) - 1) := by omega
            have HTOP := Lib.hid htop
            clear htop
            go_wp2_with fail
            refine (formatUintS_any x (by omega) _ (tabIs_ext HTAB.out HXW.out)).mono ?_
            rintro e w2 ⟨rfl, hx2⟩
            have HX2 := Lib.hid hx2
            clear hx2
            have hc2 := HX2.out.cell hc1
            clear hc1 hcb
            go_wp2_with fail
            refine (writeString_any w1.heap.size w1.heap.size (byteCells (textTo true z.natAbs (k + 1))) ⟨(decDigits x).toArray⟩ w2 (isBuilder_ext HBD.out HX2.out) (by rw [byteCells_length, Lib.size_mk, HDL.out]; have := HSW.out; have := HD9.out; omega) (by have := HX2.out.size; omega)).mono ?_
            rintro e w3 ⟨rfl, hb3, hbel3⟩
            have htx := textTo_top (neg := true) (n := z.natAbs) (k := k) (by rw [← HL.out]; exact HTOP.out)
            rw [← XX.out] at htx
            rw [strCells_toArray, byteCells_append, ← htx] at hb3
            go_wp2_with fail
            refine ⟨⟨k, by rw [← HL.out]; omega, by go_num, .inr hb3, Below.trans HBEL.out (Below.trans (Below.mono HX2.out (by omega)) hbel3)⟩, by simp only [RowKit.intOf]; omega⟩
          · have hkt : (k : Int) < (L : Int) - 1 := by omega
            have HTOP := Lib.hid htop
            clear htop
            go_wp2_with fail
            refine (formatUintS_any x (by omega) _ (tabIs_ext HTAB.out HXW.out)).mono ?_
            rintro e w2 ⟨rfl, hx2⟩
            have HX2 := Lib.hid hx2
            clear hx2
            have hc2 := HX2.out.cell hc1
            clear hc1 hcb
            have hsl : (⟨(decDigits x).toArray⟩ : ByteArray).size = nDigits x := by rw [Lib.size_mk]; exact HDL.out
            go_wp2_with fail
            rw [show wrap64 (9 - (nDigits x : Int)) = ((9 - nDigits x : Nat) : Int) by have := HD9.out; unfold wrap64; omega]
            have hrep := Tryz.strings_Repeat ⟨#[48]⟩ (9 - nDigits x) w2 (by omega) (by have := HD9.out; simp [ByteArray.size]; omega)
            refine hrep.mono ?_
            rintro e w4 ⟨rfl, hx4⟩
            have HX4 : RowKit.Hid (Ext w2 w4) := Lib.hid hx4
            clear hx4 hrep
            go_wp2_with fail
            refine (writeString_any w1.heap.size w1.heap.size (byteCells (textTo true z.natAbs (k + 1))) ⟨(repeatL [48] (9 - nDigits x)).toArray⟩ w4 (isBuilder_ext (isBuilder_ext HBD.out HX2.out) HX4.out) (by rw [byteCells_length, Lib.size_mk, repeatL_zero, List.length_replicate]; have := HSW.out; omega) (by have := HX2.out.size; have := HX4.out.size; omega)).mono ?_
            rintro e w5 ⟨rfl, hb5, hbel5⟩
            rw [strCells_toArray, byteCells_append] at hb5
            go_wp2_with fail
            refine (writeString_any w1.heap.size w1.heap.size _ ⟨(decDigits x).toArray⟩ w5 (.inr hb5) (by rw [byteCells_length, Lib.size_mk, HDL.out, List.length_append, repeatL_zero, List.length_replicate]; have := HSW.out; have := HD9.out; omega) (by have := HX2.out.size; have := HX4.out.size; have := hbel5.size; omega)).mono ?_
            rintro e w3 ⟨rfl, hb3, hbel3⟩
            have htx := textTo_low (neg := true) (n := z.natAbs) (k := k) (by rw [← HL.out]; have := HTOP.out; omega)
            rw [← XX.out] at htx
            rw [strCells_toArray, byteCells_append, List.append_assoc, ← htx] at hb3
            have h6 := HX2.out.size
            go_wp2_with fail
            refine ⟨⟨k, by rw [← HL.out]; omega, by go_num, .inr hb3, Below.trans HBEL.out (Below.trans (Below.mono HX2.out (by omega)) (Below.trans (Below.mono HX4.out (by omega)) (Below.trans hbel5 hbel3)))⟩, by simp only [RowKit.intOf]; omega⟩
end Go.Proofs.YtikfmknnbjocmaaGreatDoor
end
section
set_option linter.unusedVariables false
namespace Go.Proofs.YtikfmknnbjocmaaGreatDoor
open Go.Shelf Go.RowKit Go.Sort Go.Lib
theorem parseM_ok {l : List UInt8} (hd : IsDig l) : ∀ (acc : Nat), rdA acc l < 1000000000000000000 → parseUintM 18446744073709551615 acc l = .ok (rdA acc l) := by
  induction l with
  | nil => intro acc _; rfl
  | cons b l ih =>
    intro acc h
    have hb := hd b (by simp)
    have e1 : rdA acc (b :: l) = rdA (10 * acc + (b.toNat - 48)) l := rfl
    rw [e1] at h ⊢
    have h2 : 10 * acc + (b.toNat - 48) ≤ rdA (10 * acc + (b.toNat - 48)) l := by
      rw [rdA_eq]
      have : 1 ≤ 10 ^ l.length := Nat.one_le_pow _ _ (by omega)
      have := Nat.mul_le_mul_left (10 * acc + (b.toNat - 48)) this
      omega
    have ih' := ih (fun x hx => hd x (by simp [hx])) (10 * acc + (b.toNat - 48)) h
    rw [parseUintM, if_pos hb, if_neg (by omega)]
    rw [show 10 * acc + (b.toNat - 48) = acc * 10 + (b.toNat - 48) by omega] at ih' h h2 ⊢
    first
      | (rw [if_neg (by omega)]; exact ih')
      | (simp only []; rw [if_neg (by omega)]; exact ih')
theorem parseB_ok {l : List UInt8} (hd : IsDig l) (hl : l ≠ []) (h9 : l.length ≤ 9) : parseUintB 64 l = .ok (rd l) := by
  rw [parseUintB, if_neg hl]
  refine parseM_ok hd 0 ?_
  have h1 := rd_lt hd
  have h2 : 10 ^ l.length ≤ 10 ^ 9 := Nat.pow_le_pow_right (by omega) h9
  have h3 : rdA 0 l = rd l := rfl
  omega
theorem trimPrefix_signed {neg : Bool} {l : List UInt8} (hd : IsDig l) (hl : l ≠ []) : trimPrefix (signed neg l) [45] = l ∧ hasPrefix (signed neg l) [45] = neg := by
  cases neg
  · cases l with
    | nil => exact absurd rfl hl
    | cons b l =>
      have hb := hd b (by simp)
      have : ¬ (45 : UInt8) = b := by rintro rfl; simp at hb
      simp [signed, trimPrefix, hasPrefix, List.isPrefixOf, this]
  · simp [signed, trimPrefix, hasPrefix, List.isPrefixOf]
theorem row_of_owns {w : World} {B : Nat} {e : TypeId} {a : Option Addr} {n c : Nat} {xs : List Value} (h : w.ownsRow B e 1 (.slice a n c) n xs) (hn : xs.length = n) : Row w a xs := by
  intro j hj
  rcases h.2 with ⟨h1, h2⟩ | ⟨g, cap, cur, h1, h2⟩
  · omega
  · simp only [Value.slice.injEq] at h1
    obtain ⟨rfl, _, rfl⟩ := h1
    refine ⟨g, 0, rfl, ?_⟩
    have := h.cells (g := g) rfl j (xs.getD j (.bool false)) (by rw [List.getD_eq_getElem?_getD, List.getElem?_eq_getElem hj]; rfl)
    rw [Lib.add_plain] at this; exact this
theorem ext_bytesWorld (w : World) (e : TypeId) (s : ByteArray) : Ext w (bytesWorld w e s) := bytesWorld_below w e s
def ReadRel (W0 : World) (B : Nat) (l : List UInt8) (v i : Value) (wr : World) : Prop :=
  ∃ (e : Int) (ys : List Nat), e ≤ l.length ∧ i = .int .i64 e ∧ -9 < e ∧ ys.length + e.toNat ≤ l.length ∧ ReadSt (rd l) (l.take e.toNat) ys ∧ wr.ownsRow B 192 1 v ys.length (u64s ys) ∧ Below B W0 wr
theorem u64_info : (Tryz.prog.info? 192).map (fun i => (i.zero, i.size, i.bytes)) = some (some (.int .u64 0), 1, 8) := by kernel_rfl
set_option maxRecDepth 100000 in
set_option maxHeartbeats 400000 in
theorem numRead_any (neg : Bool) (l : List UInt8) (w : World) (hd : IsDig l) (hl : l ≠ []) (hlen : l.length ≤ 1000000000) :
    Calls Tryz.prog 106 #[.string ⟨(signed neg l).toArray⟩] w (RetNum w (sgnd neg (rd l))) := by
  obtain ⟨i0, hi, hz0, hz1, hz2⟩ := info_parts u64_info
  obtain ⟨ht1, ht2⟩ := trimPrefix_signed (neg := neg) hd hl
  have HD := Lib.hid hd
  have HL := Lib.hid hl
  clear hd hl
  obtain ⟨w1, hw1⟩ : ∃ w1, w1 = w.alloc (Obj.cells #[Value.bool false, Value.slice none 0 0] 86) := ⟨_, rfl⟩
  have hs1 : w1.heap.size = w.heap.size + 1 := by rw [hw1]; exact size_alloc' _ _
  have HW1 := Lib.hid hw1
  have HS1 := Lib.hid hs1
  clear hw1 hs1
  go_enter Tryz.func106, Tryz.ntmps106
  go_wp2_with fail
  rw [← HW1.out]
  refine (Tryz.strings_CutPrefix ⟨(signed neg l).toArray⟩ ⟨#[45]⟩ w1).mono ?_
  rintro e w2 ⟨rfl, rfl⟩
  rw [show trimPrefix (⟨(signed neg l).toArray⟩ : ByteArray).data.toList (⟨#[45]⟩ : ByteArray).data.toList = l from ht1, show hasPrefix (⟨(signed neg l).toArray⟩ : ByteArray).data.toList (⟨#[45]⟩ : ByteArray).data.toList = neg from ht2]
  clear ht1 ht2
  go_wp2_with fail
  go_loopw [5, 6] (ReadRel w2 w2.heap.size l) (fun _ i _ => (RowKit.intOf i + 9).toNat)
  case atStart => exact ⟨l.length, [], by omega, by simp, by omega, by simp, ⟨Low.nil, by simpa using HD.out, by simp [val]⟩, ⟨rfl, .inl ⟨rfl, rfl⟩⟩, Below.refl _ _⟩
  case round =>
    obtain ⟨e, ys, he, rfl, he9, hle, hst, hown, hbel⟩ := hrel
    obtain ⟨a, n, c, rfl⟩ : ∃ a n c, u5 = .slice a n c := by
      rcases hown.2 with ⟨h1, h2⟩ | ⟨g, cap, cur, h1, h2⟩
      · exact ⟨_, _, _, h1⟩
      · exact ⟨_, _, _, h1⟩
    have HST := Lib.hid hst
    have HOWN := Lib.hid hown
    have HBEL := Lib.hid hbel
    have hsz := hbel.size
    clear hst hown hbel
    by_cases h0 : 0 < e
    · obtain ⟨E, rfl⟩ : ∃ E : Nat, e = E := ⟨e.toNat, by omega⟩
      have hEl : E ≤ l.length := by omega
      have hE0 : 0 < E := by omega
      have hmx : max (0 : Int) ((E : Int) - 9) = ((E - 9 : Nat) : Int) := by omega
      have hsl : ∀ W, (Instr.sliceAt 9 (.string ⟨l.toArray⟩) (some (.int .i64 ((E - 9 : Nat) : Int))) (some (.int .i64 (E : Int))) none).run Tryz.prog W = .ok (.string ⟨((l.take E).drop (E - 9)).toArray⟩) W := by
        intro W
        have h1 : (0 : Int) ≤ ((E - 9 : Nat) : Int) ∧ ((E - 9 : Nat) : Int) ≤ (E : Int) := by omega
        have h2 : (0 : Int) ≤ (E : Int) ∧ (E : Int) ≤ (⟨l.toArray⟩ : ByteArray).size := by rw [Lib.size_mk]; omega
        have h3 : (⟨l.toArray⟩ : ByteArray).extract (E - 9) E = ⟨((l.take E).drop (E - 9)).toArray⟩ := by
          rw [Lib.extract_mk, List.drop_take]
        simp only [Instr.sliceAt, Sem.run_bind, run_underlying Tryz.underlying9, Result.andThen_ok, Instr.slice, Instr.sliceBounds, Instr.sliceBound, asIntOf, Sem.run_pure, if_true, Option.isSome, Sem.run_ite, h1, h2, and_self, Int.toNat_natCast]
        simp [h3]
      have hdd : IsDig ((l.take E).drop (E - 9)) := (HD.out.take E).drop (E - 9)
      have hl9 : ((l.take E).drop (E - 9)).length ≤ 9 := by simp; omega
      have hne : (l.take E).drop (E - 9) ≠ [] := by intro h; have := congrArg List.length h; simp at this; omega
      have hrd := rd_lt hdd
      have hr9 : rd ((l.take E).drop (E - 9)) < 1000000000 := Nat.lt_of_lt_of_le hrd (by rw [show (1000000000 : Nat) = 10 ^ 9 from rfl]; exact Nat.pow_le_pow_right (by omega) hl9)
      have hstep := HST.out.step
      rw [show (l.take ((E : Int)).toNat) = l.take E from rfl, List.length_take, Nat.min_eq_left hEl] at hstep
      have hpu := Tryz.strconv_ParseUint_10_at64_ok ⟨((l.take E).drop (E - 9)).toArray⟩ (by rw [Lib.size_mk]; omega) (rd ((l.take E).drop (E - 9))) (parseB_ok hdd hne hl9) wr
      have HPU := Lib.hid hpu
      have HSTEP := Lib.hid hstep
      clear hpu hstep hrd hdd hne hl9
      go_wp2_with fail
      obtain ⟨d, hdef⟩ : ∃ d, d = rd ((l.take E).drop (E - 9)) := ⟨_, rfl⟩
      rw [← hdef] at hr9
      have HDEF := Lib.hid hdef
      clear hdef
      refine HPU.out.mono ?_
      rintro e w3 ⟨rfl, hw3⟩
      rw [← HDEF.out]
      have HX3 : RowKit.Hid (Ext wr w3) := Lib.hid (by
        rcases hw3 with rfl | rfl
        · exact Ext.refl _
        · exact ext_bytesWorld _ _ _)
      clear hw3
      have hsz3 := HX3.out.size
      go_wp2_with (at_builtin; refine wpList_append_own _ rfl _ _ 84 rfl w2.heap.size 192 i0 (.int .u64 0) 1 8 Tryz.underlying84 hi hz0 hz1 hz2 rfl (by decide) _ _ _ rfl ((ownsRow_ext HOWN.out HX3.out).alloc _) ⟨w3.heap.size, 0, none⟩ 1 1 [.int .u64 (d : Int)] rfl rfl ?c1 ?c2 ?c3 ?c4 ?c5 ?_)
      case c1 =>
        intro j u hj
        match j, hj with
        | 0, hj => simp at hj; subst hj; simp [Addr.add]
      case c2 => intro u hu; simp at hu; subst hu; rfl
      case c3 => unfold maxLen; omega
      case c4 => omega
      case c5 => simp; omega
      intro v' w4 hown' hgrow _
      go_wp2_with fail
      refine ⟨⟨(E : Int) - 9, ys ++ [d], by omega, by go_num, by omega, by simp; omega, ?_, by simpa [u64s] using hown', ?_⟩, by simp only [RowKit.intOf]; omega⟩
      · rw [HDEF.out, show (l.take ((E : Int) - 9).toNat) = (l.take E).take (E - 9) by rw [List.take_take]; congr 1; omega]
        exact HSTEP.out
      · have h5 : Below w2.heap.size wr w3 := Below.mono HX3.out (by omega)
        exact (((HBEL.out.trans h5).alloc (by omega) _).grown hgrow (by simp; omega) (fun k hk => (HOWN.out.lt k hk).1))
    · have hln := HOWN.out.1
      have hval : val ys = rd l := by
        have := HST.out.sum
        rw [show e.toNat = 0 by omega] at this
        simpa [rd, rdA] using this.symm
      obtain ⟨rfl, hcap⟩ : n = ys.length ∧ ys.length ≤ c := by
        rcases HOWN.out.2 with ⟨h1, h2⟩ | ⟨g, cap, cur, h1, h2, h3, h4, _⟩
        · simp at h1; omega
        · simp at h1; obtain ⟨_, rfl, rfl⟩ := h1; exact ⟨rfl, h4⟩
      have hrow := row_of_owns HOWN.out (by simp)
      have HROW := Lib.hid hrow
      have HVAL := Lib.hid hval
      clear hrow hval hln
      go_wp2_with fail
      refine (trim_len a c ys.length ys wr rfl (by omega) hcap HROW.out).mono ?_
      rintro e w' ⟨rfl, hww⟩
      subst hww
      go_wp2_with fail
      refine (number_any neg _ (rd l) wr (nat_of_trim HST.out.low HROW.out HVAL.out hcap) (Nat.le_trans (nl_le_of_lt (k := l.length) (Nat.lt_of_lt_of_le (rd_lt HD.out) (by rw [ten9]; exact Nat.pow_le_pow_right (by omega) (by omega)))) (by omega))).mono ?_
      rintro e w5 ⟨v5, rfl, ⟨a5, n5, c5, rfl, hs5⟩, hx5⟩
      have HX5 := Lib.hid hx5
      have HS5 := Lib.hid hs5
      have hlt : w.heap.size < w2.heap.size := by rw [HS1.out]; omega
      have BB : RowKit.Hid (w5.heap[w.heap.size]? = some (.cells #[.bool false, .slice none 0 0] 86 (0, 0))) := Lib.hid (by
        rw [Below.block HX5.out _ (by omega), HBEL.out.block _ hlt, HW1.out, heap_alloc_eq])
      have d0 := cell2_0 BB.out
      have d1 := cell2_1 BB.out
      have f0 := frozen_of_row _ _ 0 _ _ BB.out
      have f1 := frozen_of_row _ _ 1 _ _ BB.out
      clear hs5 hx5
      go_wp2_with fail
      have HXX : Ext w w5 := by
        refine Ext.trans (b := w2) (by rw [HW1.out]; exact Ext.alloc (Ext.refl w) _) ?_
        exact Below.trans HBEL.out (Below.mono HX5.out (by omega))
      refine ret_num rfl rfl (blk2_set BB.out) rfl ⟨_, rfl, ?_, ext2 HXX (Nat.le_refl _) _ _⟩
      have hs := HS5.out.grown (noInts2 BB.out) (grown2 _ _ (.bool (decide (sgnd neg (rd l) < 0))) (.slice a5 n5 c5))
      exact num_of' rfl hs
end Go.Proofs.YtikfmknnbjocmaaGreatDoor
end
section
set_option linter.unusedSectionVars false
set_option linter.unusedVariables false
namespace Go.Proofs.YtikfmknnbjocmaaGreatDoor
open Go.RowKit
def TabU (u : PH) : Prop := ∀ w, Part u w → Lib.TabIs Tryz.prog w "internal/strconv.uint64pow10" .u64 Lib.pow10Tab
theorem TabU.mono {u u' : PH} (h : TabU u) (hl : PH.le u u') : TabU u' := fun w hp => h w (fun g o hg => hp g o (hl g o hg))
section
variable {u : PH} {x : Value}
theorem formatUint0 {k : Nat} (ht : TabU u) (hk : k < 18446744073709551616) : Fn0 Tryz.prog 159 [.int .u64 (k : Int), .int .i64 10] u fun v _ => v = .string (mkS (Lib.decDigits k)) :=
  Fn0.ofW (fun v _ => v = .string (mkS (Lib.decDigits k))) (fun w hp => (formatUintS_any k hk w (ht w hp)).mono fun _ _ ⟨e, h⟩ => ⟨_, e, rfl, h⟩) (fun _ _ _ h _ _ _ => h)
theorem numRead0 {z : Int} (h : Lib.nDigits z.natAbs ≤ 400) : Fn0 Tryz.prog 106 [.string (mkS (Lib.itoa z))] u fun v u' => NumP u' v z := by
  refine Fn0.ofW (fun v w => NumV w v z) (fun w _ => ?_) (fun _ _ _ h _ c _ => NumP.ofW h c)
  have := numRead_any (decide (z < 0)) (Lib.decDigits z.natAbs) w (dec_dig _) (dec_ne_nil _) (by rw [Lib.decDigits_length]; omega)
  rw [sgnd_itoa, ← itoa_signed] at this
  exact this
theorem numString0 {z : Int} (ht : TabU u) (h : NumP u x z) (hs : nl z.natAbs ≤ 100000000000) : Fn0 Tryz.prog 160 [x] u fun v _ => v = .string (mkS (Lib.itoa z)) :=
  Fn0.ofW (fun v _ => v = .string (mkS (Lib.itoa z))) (fun w hp => (numString_any x z w (h.toW hp) hs (ht w hp)).mono fun _ _ ⟨e, h⟩ => ⟨_, e, rfl, h⟩) (fun _ _ _ h _ _ _ => h)
end
theorem NatP.at {u : PH} {a : Option Addr} {n c k j : Nat} (h : NatP u (.slice a n c) k) (hj : j < (limbs k).length) : ∃ b off, a = some ⟨b, off, none⟩ ∧ ElP u b (off + j * 1) (.int .u64 ((limbs k).getD j 0 : Nat)) := by
  obtain ⟨a', c', h1, h2, h3⟩ := h
  simp only [Value.slice.injEq] at h1
  obtain ⟨rfl, _, rfl⟩ := h1
  obtain ⟨b, off, e1, e2⟩ := h3 j (by simpa using hj)
  refine ⟨b, off, e1, fun i y hi => ?_⟩
  have hx : (u64s (limbs k)).getD j (.bool false) = .int .u64 ((limbs k).getD j 0 : Nat) := by simp [u64s, hj]
  rw [hx] at e2
  have : i = 0 ∧ y = .int .u64 ((limbs k).getD j 0 : Nat) := by
    match i, hi with
    | 0, hi => simp [Value.cells] at hi; simp [hi]
  obtain ⟨rfl, rfl⟩ := this
  simpa using e2
theorem numDigits0 {u : PH} {x : Value} {z : Int} (ht : TabU u) (h : NumP u x z) (hs : nl z.natAbs ≤ 100000000000) : Fn0 Tryz.prog 129 [x] u fun v _ => v = .int .i64 (Lib.nDigits z.natAbs : Nat) := by
  obtain ⟨a, n, c, rfl, hn⟩ := h
  obtain rfl : n = (limbs z.natAbs).length := by obtain ⟨_, _, h1, _⟩ := id hn; simp at h1; exact h1.2.1
  generalize decide (z < 0) = b
  have hs' : (limbs z.natAbs).length ≤ 100000000000 := hs
  refine Fn0.of Tryz.func129 (by kernel_rfl) (by kernel_rfl) ?_
  by_cases h0 : z.natAbs = 0
  · refine G.eqlT ((limbs z.natAbs).length : Int) 0 (by kernel_rfl) (by rw [h0, limbs_zero]; rfl) ?_
    exact G.ret (.int .i64 1) (by kernel_rfl) ⟨rfl, by rw [h0, Lib.nDigits_small (by omega)]; rfl⟩
  · have hp : 0 < (limbs z.natAbs).length := len_pos.2 (by omega)
    have htop := nDigits_top h0
    have hlow := (low_limbs z.natAbs).getD ((limbs z.natAbs).length - 1)
    obtain ⟨bb, off, rfl, he⟩ := hn.at (j := (limbs z.natAbs).length - 1) (by omega)
    have h9 := nDigits_le9 hlow
    have hdl := Lib.decDigits_length ((limbs z.natAbs).getD ((limbs z.natAbs).length - 1) 0)
    have hsz : (mkS (Lib.decDigits ((limbs z.natAbs).getD ((limbs z.natAbs).length - 1) 0))).size = (Lib.decDigits ((limbs z.natAbs).getD ((limbs z.natAbs).length - 1) 0)).length := Go.Lib.size_mk _
    refine G.eqlF ((limbs z.natAbs).length : Int) 0 (by kernel_rfl) (by omega) ?_
    refine G.sub ((limbs z.natAbs).length : Int) 1 (((limbs z.natAbs).length - 1 : Nat) : Int) (by kernel_rfl) (by omega) (by omega) (by omega) ?_
    refine G.mul 9 (((limbs z.natAbs).length - 1 : Nat) : Int) ((9 * ((limbs z.natAbs).length - 1) : Nat) : Int) (by kernel_rfl) (by omega) (by omega) (by omega) ?_
    refine G.addr bb off (limbs z.natAbs).length c ((limbs z.natAbs).length - 1) 1 (by kernel_rfl) (by omega) ?_
    refine G.loadU none bb (off + ((limbs z.natAbs).length - 1) * 1) (.int .u64 ((limbs z.natAbs).getD ((limbs z.natAbs).length - 1) 0 : Nat)) (by kernel_rfl) (by kernel_rfl) he ?_
    refine G.call0 _ _ (by kernel_rfl) Tryz.call159 (formatUint0 (k := (limbs z.natAbs).getD ((limbs z.natAbs).length - 1) 0) ht (by omega)) ?_
    rintro v1 u1 l1 rfl
    refine G.add ((9 * ((limbs z.natAbs).length - 1) : Nat) : Int) ((Lib.decDigits ((limbs z.natAbs).getD ((limbs z.natAbs).length - 1) 0)).length : Int) ((Lib.nDigits z.natAbs : Nat) : Int) (by kernel_rfl) (by omega) (by omega) (by omega) ?_
    exact G.ret _ (by kernel_rfl) ⟨rfl, rfl⟩
theorem fracRat0 {u : PH} {x : Value} {q : Rat} (ht : TabU u) (hx : FracP u x q) (h : Tx q) : Fn0 Tryz.prog 130 [x] u fun v _ => v = .string (mkS (ratT q)) := by
  obtain ⟨b, a, n, c, b', a', n', c', rfl⟩ := hx.opn
  have hd := Nat.le_trans (nl_of_dig h.2) (show 400 ≤ 4000000000000 by omega)
  refine Fn0.of Tryz.func130 (by kernel_rfl) (by kernel_rfl) ?_
  refine G.call0 _ _ (by kernel_rfl) Tryz.call138 (fracWhole0 hx hd) ?_
  rintro v1 u1 l1 rfl
  by_cases h1 : q.den = 1
  · rw [decide_eq_true h1]
    refine G.call0 _ _ (by kernel_rfl) Tryz.call160 (numString0 (ht.mono l1) (hx.num.mono l1) (Nat.le_trans (nl_of_dig h.1) (by omega))) ?_
    rintro v2 u2 l2 rfl
    exact G.ret (.string (mkS (Lib.itoa q.num))) (by kernel_rfl) ⟨rfl, by rw [ratT, if_pos h1]⟩
  · rw [decide_eq_false h1]
    refine G.call0 _ _ (by kernel_rfl) Tryz.call160 (numString0 (ht.mono l1) (hx.num.mono l1) (Nat.le_trans (nl_of_dig h.1) (by omega))) ?_
    rintro v2 u2 l2 rfl
    have e1 := itoa_len h.1
    have e2 := itoa_len h.den
    refine G.addS (Lib.itoa q.num) [47] (by kernel_rfl) (by simp; omega) ?_
    refine G.call0 _ _ (by kernel_rfl) Tryz.call160 (numString0 (ht.mono (l1.trans l2)) (hx.den.mono (l1.trans l2)) (Nat.le_trans (nl_of_dig h.den) (by omega))) ?_
    rintro v3 u3 l3 rfl
    refine G.addS (Lib.itoa q.num ++ [47]) (Lib.itoa (q.den : Int)) (by kernel_rfl) (by simp; omega) ?_
    exact G.ret (.string (mkS (Lib.itoa q.num ++ [47] ++ Lib.itoa (q.den : Int)))) (by kernel_rfl) ⟨rfl, by rw [ratT, if_neg h1]; simp⟩
theorem fracFits0 {u : PH} {x : Value} {q : Rat} (ht : TabU u) (hx : FracP u x q) (h : Tx q) : Fn0 Tryz.prog 87 [x] u fun v _ => v = .tuple #[.string (mkS (ratT q)), .int .i64 0] := by
  obtain ⟨b, a, n, c, b', a', n', c', rfl⟩ := hx.opn
  have h2 := h.2
  have h1 := h.1
  refine Fn0.of Tryz.func87 (by kernel_rfl) (by kernel_rfl) ?_
  refine G.call0 _ _ (by kernel_rfl) Tryz.call129 (numDigits0 ht hx.num (Nat.le_trans (nl_of_dig h.1) (by omega))) ?_
  rintro v1 u1 l1 rfl
  refine G.gtrF ((Lib.nDigits q.num.natAbs : Nat) : Int) 400 (by kernel_rfl) (by omega) ?_
  refine G.call0 _ _ (by kernel_rfl) Tryz.call129 (numDigits0 (ht.mono l1) (hx.den.mono l1) (Nat.le_trans (nl_of_dig h.den) (by omega))) ?_
  rintro v2 u2 l2 rfl
  have h3 := h.den
  refine G.gtrF ((Lib.nDigits ((q.den : Int)).natAbs : Nat) : Int) 400 (by kernel_rfl) (by omega) ?_
  refine G.call0 _ _ (by kernel_rfl) Tryz.call130 (fracRat0 (ht.mono (l1.trans l2)) (hx.mono (l1.trans l2)) h) ?_
  rintro v3 u3 l3 rfl
  exact G.ret _ (by kernel_rfl) ⟨rfl, rfl⟩
end Go.Proofs.YtikfmknnbjocmaaGreatDoor
end
section
set_option linter.unusedSectionVars false
set_option linter.unusedVariables false
namespace Go.Proofs.YtikfmknnbjocmaaGreatDoor
open Go.RowKit
theorem index_none {l : List UInt8} {c : UInt8} (h : ∀ b ∈ l, b ≠ c) : Lib.indexByte l c = -1 := by
  induction l with
  | nil => rfl
  | cons b l ih =>
    have h1 : (b == c) = false := by rw [beq_eq_false_iff_ne]; exact h b (by simp)
    rw [Lib.indexByte, h1, ih (fun x hx => h x (by simp [hx]))]; rfl
theorem index_at {l r : List UInt8} {c : UInt8} (h : ∀ b ∈ l, b ≠ c) : Lib.indexByte (l ++ c :: r) c = l.length := by
  induction l with
  | nil => simp [Lib.indexByte]
  | cons b l ih =>
    have h1 : (b == c) = false := by rw [beq_eq_false_iff_ne]; exact h b (by simp)
    have h2 := ih (fun x hx => h x (by simp [hx]))
    rw [List.cons_append, Lib.indexByte, h1, h2]
    have h3 : (((l.length : Nat) : Int) == -1) = false := by rw [beq_eq_false_iff_ne]; omega
    simp [h3]
theorem index0 {u : PH} {l : List UInt8} {c : UInt8} : Fn0 Tryz.prog 172 [.string (mkS l), .string (mkS [c])] u fun v _ => v = .int .i64 (Lib.indexByte l c) :=
  Fn0.ofW (fun v _ => v = .int .i64 (Lib.indexByte l c)) (fun w _ => (Tryz.stringslite_Index_one (mkS l) c w).mono fun _ _ ⟨e, h⟩ => ⟨_, e, rfl, by rw [h]; exact Ext.refl _⟩) (fun _ _ _ h _ _ _ => h)
theorem cutN {u : PH} {T : List UInt8} (h : ∀ b ∈ T, b ≠ 47) : Fn0 Tryz.prog 103 [.string (mkS T), .string (mkS [47])] u fun v _ => v = .tuple #[.string (mkS T), .string (mkS []), .bool false] := by
  have hin : Fn0 Tryz.prog 144 [.string (mkS T), .string (mkS [47])] u fun v _ => v = .tuple #[.string (mkS T), .string (mkS []), .bool false] := by
    refine Fn0.of Tryz.func144 (by kernel_rfl) (by kernel_rfl) ?_
    refine G.call0 _ _ (by kernel_rfl) Tryz.call172 (index0 (l := T) (c := 47)) ?_
    rintro v1 u1 l1 rfl
    rw [index_none h]
    refine G.geqF (-1) 0 (by kernel_rfl) (by omega) ?_
    exact G.ret (.tuple #[.string (mkS T), .string (mkS []), .bool false]) (by kernel_rfl) ⟨rfl, rfl⟩
  refine Fn0.of Tryz.func103 (by kernel_rfl) (by kernel_rfl) ?_
  refine G.call0 _ _ (by kernel_rfl) Tryz.call144 hin ?_
  rintro v1 u1 l1 rfl
  exact G.ret _ (by kernel_rfl) ⟨rfl, rfl⟩
theorem cutS {u : PH} {A B : List UInt8} (h : ∀ b ∈ A, b ≠ 47) (hl : (A ++ 47 :: B).length ≤ 1000000) : Fn0 Tryz.prog 103 [.string (mkS (A ++ 47 :: B)), .string (mkS [47])] u fun v _ => v = .tuple #[.string (mkS A), .string (mkS B), .bool true] := by
  have hlen : (A ++ 47 :: B).length = A.length + 1 + B.length := by simp; omega
  have htk : (A ++ 47 :: B).take A.length = A := by simp
  have hdr : (A ++ 47 :: B).drop (A.length + 1) = B := by rw [← List.drop_drop]; simp
  have hix := index_at (r := B) h
  generalize A ++ 47 :: B = T at *
  have hsize : (mkS T).size = T.length := Go.Lib.size_mk _
  have hin : Fn0 Tryz.prog 144 [.string (mkS T), .string (mkS [47])] u fun v _ => v = .tuple #[.string (mkS A), .string (mkS B), .bool true] := by
    refine Fn0.of Tryz.func144 (by kernel_rfl) (by kernel_rfl) ?_
    refine G.call0 _ _ (by kernel_rfl) Tryz.call172 (index0 (l := T) (c := 47)) ?_
    rintro v1 u1 l1 rfl
    rw [hix]
    refine G.geqT (A.length : Int) 0 (by kernel_rfl) (by omega) ?_
    refine G.sliceSTo T A.length (by kernel_rfl) (by kernel_rfl) (by omega) ?_
    rw [htk]
    refine G.add (A.length : Int) 1 ((A.length + 1 : Nat) : Int) (by kernel_rfl) (by omega) (by omega) (by omega) ?_
    refine G.sliceSFrom T (A.length + 1) (by kernel_rfl) (by kernel_rfl) (by omega) ?_
    rw [hdr]
    exact G.ret (.tuple #[.string (mkS A), .string (mkS B), .bool true]) (by kernel_rfl) ⟨rfl, rfl⟩
  refine Fn0.of Tryz.func103 (by kernel_rfl) (by kernel_rfl) ?_
  refine G.call0 _ _ (by kernel_rfl) Tryz.call144 hin ?_
  rintro v1 u1 l1 rfl
  exact G.ret _ (by kernel_rfl) ⟨rfl, rfl⟩
theorem cutT {u : PH} {q : Rat} (h : Tx q) : Fn0 Tryz.prog 103 [.string (mkS (ratT q)), .string (mkS [47])] u fun v _ => v = .tuple #[.string (mkS (Lib.itoa q.num)), .string (mkS (if q.den = 1 then [] else Lib.itoa (q.den : Int))), .bool (decide (q.den ≠ 1))] := by
  have l1 := itoa_len h.1
  have l2 := itoa_len h.den
  unfold ratT
  by_cases hd : q.den = 1
  · rw [if_pos hd, if_pos hd, decide_eq_false (by simp [hd])]
    exact cutN (itoa_no47 _)
  · rw [if_neg hd, if_neg hd, decide_eq_true hd]
    exact cutS (itoa_no47 _) (by simp; omega)
theorem FracP.mk {u : PH} {q : Rat} {y z : Int} {b b' : Bool} {a a' : Option Addr} {n c n' c' : Nat} (h1 : NumP u (.agg #[.bool b, .slice a n c]) y) (h2 : NumP u (.agg #[.bool b', .slice a' n' c']) z) (hy : q.num = y) (hz : (q.den : Int) = z) :
    FracP u (.agg #[.bool b, .slice a n c, .bool b', .slice a' n' c']) q := by
  obtain ⟨_, _, _, e1, i1⟩ := h1
  obtain ⟨_, _, _, e2, i2⟩ := h2
  subst hy hz
  rw [decide_eq_false (by omega)] at e2
  simp only [Value.agg.injEq, Array.mk.injEq, List.cons.injEq, Value.bool.injEq, Value.slice.injEq, and_true] at e1 e2
  obtain ⟨rfl, rfl, rfl, rfl⟩ := e1
  obtain ⟨rfl, rfl, rfl, rfl⟩ := e2
  exact ⟨_, _, _, _, _, _, rfl, i1, i2⟩
theorem fracRead0 {u : PH} {q : Rat} (h : Tx q) : Fn0 Tryz.prog 54 [.string (mkS (ratT q))] u fun v u' => FracP u' v q := by
  refine Fn0.of Tryz.func54 (by kernel_rfl) (by kernel_rfl) ?_
  refine G.call0 _ _ (by kernel_rfl) Tryz.call103 (cutT h) ?_
  rintro v1 u1 l1 rfl
  by_cases hd : q.den = 1
  · rw [if_pos hd, decide_eq_false (by simp [hd])]
    refine G.call0 _ _ (by kernel_rfl) Tryz.call106 (numRead0 h.1) ?_
    intro v2 u2 l2 k2
    obtain ⟨b2, a2, n2, c2, rfl⟩ := k2.opn
    have hr1 := numRead0 (u := u2) (z := 1) (by rw [Lib.nDigits_small (by decide)]; omega)
    rw [itoa_one] at hr1
    refine G.call0 _ _ (by kernel_rfl) Tryz.call106 hr1 ?_
    intro v3 u3 l3 k3
    obtain ⟨b3, a3, n3, c3, rfl⟩ := k3.opn
    exact G.ret (.agg #[.bool b2, .slice a2 n2 c2, .bool b3, .slice a3 n3 c3]) (by kernel_rfl) ⟨rfl, FracP.mk (k2.mono l3) k3 rfl (by rw [hd]; rfl)⟩
  · rw [if_neg hd, decide_eq_true hd]
    refine G.call0 _ _ (by kernel_rfl) Tryz.call106 (numRead0 h.1) ?_
    intro v2 u2 l2 k2
    obtain ⟨b2, a2, n2, c2, rfl⟩ := k2.opn
    refine G.call0 _ _ (by kernel_rfl) Tryz.call106 (numRead0 h.den) ?_
    intro v3 u3 l3 k3
    obtain ⟨b3, a3, n3, c3, rfl⟩ := k3.opn
    exact G.ret (.agg #[.bool b2, .slice a2 n2 c2, .bool b3, .slice a3 n3 c3]) (by kernel_rfl) ⟨rfl, FracP.mk (k2.mono l3) k3 rfl rfl⟩
end Go.Proofs.YtikfmknnbjocmaaGreatDoor
end
section
set_option linter.unusedSectionVars false
set_option linter.unusedVariables false
namespace Go.Proofs.YtikfmknnbjocmaaGreatDoor
open Go.RowKit
theorem ListP.opn {u : PH} {v : Value} {sz : Nat} {es : List Value} (h : ListP u v sz es) : ∃ a c, v = .slice a es.length c := by
  obtain ⟨a, c, rfl, _⟩ := h; exact ⟨a, c, rfl⟩
theorem ListP.at' {u : PH} {a : Option Addr} {n c sz : Nat} {es : List Value} (h : ListP u (.slice a n c) sz es) {j : Nat} {e : Value} (hj : es[j]? = some e) : ∃ b off, a = some ⟨b, off, none⟩ ∧ ElP u b (off + j * sz) e := by
  obtain ⟨a', c', h1, h2, h3⟩ := h
  simp only [Value.slice.injEq] at h1
  obtain ⟨rfl, _, rfl⟩ := h1
  exact h3 j e hj
end Go.Proofs.YtikfmknnbjocmaaGreatDoor
end
section
set_option linter.unusedSectionVars false
set_option linter.unusedVariables false
namespace Go.Proofs.YtikfmknnbjocmaaGreatDoor
open Go.RowKit
end Go.Proofs.YtikfmknnbjocmaaGreatDoor
end
section
set_option linter.unusedSectionVars false
set_option linter.unusedSimpArgs false
set_option linter.unusedVariables false
namespace Go.Proofs.YtikfmknnbjocmaaGreatDoor
open Go.RowKit
section rules
variable [Flag] {P : Program} [Mixed P] {fn : Func} {Post : Spec} {st : List KI × S} {u m : PH}
theorem Good.heap {w w' : World} (h : Good u m w) (e : ∀ g : Nat, w'.heap[g]? = w.heap[g]?) : Good u m w' :=
  ⟨fun g o hg => by rw [e]; exact h.pu g o hg, fun g o hg => by rw [e]; exact h.pm g o hg, h.ap, fun g cs t fr j z hg hj => h.cl g cs t fr j z (by rw [← e]; exact hg) hj⟩
theorem G.convSB (d : Option TypeDesc) (e : TypeId) (l : List UInt8) (h : stopV P (adv P st) = .conv d (some (.slice e)) (.string (mkS l))) (hd : d.isSome = true) (he : P.underlying e = some (.int .u8))
    (k : ∀ v u', PH.le u u' → ListP u' v 1 (bytesV l) → G P fn Post (nx (adv P st) v) u' m) : G P fn Post st u m := by
  refine G.big (K := fun v' u' m' => m' = m ∧ ListP u' v' 1 (bytesV l)) h (by simp) (fun env op hv => ?_) (.inl fun v u' m' hk => by rw [hk.1]; exact PH.le_refl _) (fun env o hview w hgd => ?_) (fun v' u' m' hle hk => ?_)
  · obtain ⟨s, d', X, rfl, _⟩ := view_conv hv; rfl
  · obtain ⟨s, d', X, e1, e2, e3, e4⟩ := view_conv hview
    obtain ⟨dst, opp, type, pos, after, guard⟩ := o
    simp only at e1; subst e1
    obtain ⟨dd, rfl⟩ := Option.isSome_iff_exists.1 hd
    have hr := Lib.run_convert_string_bytes (P := P) w s d' e (mkS l) e3 e4 he
    have hsz : (mkS l).size = l.length := Go.Lib.size_mk l
    obtain ⟨g1, g2, g3, g4⟩ := hgd.newU (.cells (Lib.bytesCells w e (mkS l)) e ((Lib.bytesCells w e (mkS l)).size, (Lib.bytesCells w e (mkS l)).size + 1))
    have hh : ∀ g : Nat, (Lib.bytesWorld w e (mkS l)).heap[g]? = (w.alloc (.cells (Lib.bytesCells w e (mkS l)) e ((Lib.bytesCells w e (mkS l)).size, (Lib.bytesCells w e (mkS l)).size + 1))).heap[g]? := by
      intro g
      rcases Nat.lt_trichotomy g w.heap.size with h1 | h1 | h1
      · rw [Lib.bytesWorld_at_old w e _ g h1, heap_alloc_lt _ _ h1]
      · subst h1; rw [Lib.bytesWorld_at_new, heap_alloc_eq]
      · rw [Array.getElem?_eq_none (by rw [Lib.bytesWorld_size]; omega), Array.getElem?_eq_none (by rw [size_alloc']; omega)]
    refine does_value (by simp [execOp, e2, hr]; rfl) ⟨_, m, g1.heap hh, ⟨by rw [Lib.bytesWorld_size]; omega, fun g hg hm => Lib.bytesWorld_at_old w e _ g hg, g2.us, g2.ms, ⟨rfl, rfl⟩, fun _ => ⟨rfl, by first | exact Nat.le_refl _ | exact Nat.le_succ _⟩⟩, rfl, ?_⟩
    refine ⟨some ⟨w.heap.size, 0, none⟩, grownCap w l.length 0 e, by rw [bytesV_length, hsz], by rw [bytesV_length]; exact grownCap_ge w _ _ e, fun j x hj => ⟨_, 0, rfl, fun i y hy => ⟨_, _, _, upd_same _ _ _, ?_⟩⟩⟩
    have hjl : j < l.length := by
      rcases Nat.lt_or_ge j l.length with h' | h'
      · exact h'
      · rw [List.getElem?_eq_none (by rw [bytesV_length]; exact h')] at hj; cases hj
    rw [bytesV_get hjl] at hj
    simp only [Option.some.injEq] at hj
    subst hj
    have : i = 0 ∧ y = .int .u8 ((l.getD j 0).toNat : Int) := by
      match i, hy with
      | 0, hy => simp [Value.cells] at hy; simp [hy]
    obtain ⟨rfl, rfl⟩ := this
    simp [Lib.bytesCells, Array.getElem?_append, hjl, List.getD]
  · obtain ⟨rfl, hk⟩ := hk
    exact k v' u' hle hk
end rules
theorem trimPrefix0 {u : PH} {s p : List UInt8} : Fn0 Tryz.prog 145 [.string (mkS s), .string (mkS p)] u fun v _ => v = .string (mkS (Lib.trimPrefix s p)) :=
  Fn0.ofW (fun v _ => v = .string (mkS (Lib.trimPrefix s p))) (fun w _ => (Tryz.strings_TrimPrefix (mkS s) (mkS p) w).mono fun _ _ ⟨e, h⟩ => ⟨_, e, rfl, by rw [h]; exact Ext.refl _⟩) (fun _ _ _ h _ _ _ => h)
theorem intValid0 {u : PH} {z : Int} (h : Lib.nDigits z.natAbs ≤ 400) : Fn0 Tryz.prog 104 [.string (mkS (Lib.itoa z))] u fun v _ => v = .bool true := by
  refine Fn0.of Tryz.func104 (by kernel_rfl) (by kernel_rfl) ?_
  by_cases h0 : z = 0
  · subst h0
    refine G.eqST (Lib.itoa 0) [48] (by kernel_rfl) itoa_zero ?_
    exact G.ret (.bool true) (by kernel_rfl) ⟨rfl, rfl⟩
  refine G.eqSF (Lib.itoa z) [48] (by kernel_rfl) (fun e => h0 (itoa_inj (e.trans itoa_zero.symm))) ?_
  refine G.call0 _ _ (by kernel_rfl) Tryz.call145 (trimPrefix0 (s := Lib.itoa z) (p := [45])) ?_
  rintro v1 u1 l1 rfl
  have hdl := Lib.decDigits_length z.natAbs
  have hdp := Lib.nDigits_pos z.natAbs
  have hdd := dec_dig z.natAbs
  obtain ⟨b0, hb0, hb1, hb2⟩ := itoa_first (z := (z.natAbs : Int)) (by omega) (by omega)
  rw [itoa_nat] at hb0
  rw [itoa_signed z, (trimPrefix_signed hdd (dec_ne_nil _)).1]
  generalize hL : Lib.decDigits z.natAbs = L at *
  have hsize : (mkS L).size = L.length := Go.Lib.size_mk _
  refine G.eqSF L [] (by kernel_rfl) (by intro e; rw [e] at hdl; simp at hdl; omega) ?_
  refine G.gtrF (L.length : Int) 400 (by kernel_rfl) (by omega) ?_
  refine G.idxS L 0 b0 (by kernel_rfl) hb0 ?_
  refine G.cmpG .eql .u8 (b0.toNat : Int) 48 false (by kernel_rfl) rfl (by simp only [cmpZ, decide_eq_false_iff_not]; omega) ?_
  refine G.convSB (some .string) 5 L (by kernel_rfl) rfl (by kernel_rfl) ?_
  intro v2 u2 l2 k2
  obtain ⟨a, c, rfl⟩ := ListP.opn k2
  rw [bytesV_length] at k2 ⊢
  refine G.loop (ι := Nat) (fun i => [(23, .v (.slice a L.length c)), (24, .v (.int .i64 (L.length : Int))), (25, .v (.int .i64 (i : Int)))]) (fun _ => []) (fun i _ m' => i ≤ L.length ∧ m' = PH.mt) (fun i => L.length - i) 0 (by kernel_rfl) (fun _ => by kernel_rfl) ⟨by kernel_rfl, by kernel_rfl, by kernel_rfl⟩ ⟨by omega, rfl⟩ ?_
  rintro J i hJ u' m' hle ⟨hi, rfl⟩
  by_cases hlt : i < L.length
  · refine G.lssT (i : Int) (L.length : Int) (by kernel_rfl) (by omega) ?_
    have hg := getD_dig hdd hlt
    obtain ⟨ba, oa, rfl, ea⟩ := ListP.at' (ListP.mono k2 hle) (j := i) (bytesV_get hlt)
    refine G.addr ba oa L.length c i 1 (by kernel_rfl) (by omega) ?_
    refine G.loadU none ba (oa + i * 1) (.int .u8 ((L.getD i 0).toNat : Int)) (by kernel_rfl) (by kernel_rfl) ea ?_
    refine G.cmpG .lss .u8 ((L.getD i 0).toNat : Int) 48 false (by kernel_rfl) rfl (by simp only [cmpZ, decide_eq_false_iff_not]; omega) ?_
    refine G.cmpG .gtr .u8 ((L.getD i 0).toNat : Int) 57 false (by kernel_rfl) rfl (by simp only [cmpZ, decide_eq_false_iff_not]; omega) ?_
    refine G.add (i : Int) 1 ((i + 1 : Nat) : Int) (by kernel_rfl) (by omega) (by omega) (by omega) ?_
    exact G.back (by kernel_rfl) (hJ (i + 1) _ _ _ ⟨by kernel_rfl, by kernel_rfl, by kernel_rfl⟩ hle ⟨by omega, rfl⟩ (by omega))
  · refine G.lssF (i : Int) (L.length : Int) (by kernel_rfl) (by omega) ?_
    exact G.ret (.bool true) (by kernel_rfl) ⟨rfl, rfl⟩
end Go.Proofs.YtikfmknnbjocmaaGreatDoor
end
section
set_option linter.unusedSectionVars false
set_option linter.unusedVariables false
namespace Go.Proofs.YtikfmknnbjocmaaGreatDoor
open Go.RowKit
theorem intRead0 {u : PH} {z : Int} (h : Lib.nDigits z.natAbs ≤ 400) : Fn0 Tryz.prog 125 [.string (mkS (Lib.itoa z))] u fun v u' => NumP u' v z := by
  refine Fn0.of Tryz.func125 (by kernel_rfl) (by kernel_rfl) ?_
  refine G.call0 _ _ (by kernel_rfl) Tryz.call106 (numRead0 h) ?_
  intro v2 u2 l2 k2
  obtain ⟨b2, a2, n2, c2, rfl⟩ := k2.opn
  exact G.ret (.agg #[.bool b2, .slice a2 n2 c2]) (by kernel_rfl) ⟨rfl, k2⟩
theorem intCompare0 {u : PH} {y z : Int} (h : Lib.nDigits y.natAbs ≤ 400) (h' : Lib.nDigits z.natAbs ≤ 400) : Fn0 Tryz.prog 105 [.string (mkS (Lib.itoa y)), .string (mkS (Lib.itoa z))] u fun v _ => v = .int .i64 (sgn (y - z)) := by
  refine Fn0.of Tryz.func105 (by kernel_rfl) (by kernel_rfl) ?_
  refine G.call0 _ _ (by kernel_rfl) Tryz.call104 (intValid0 h) ?_
  rintro v1 u1 l1 rfl
  refine G.call0 _ _ (by kernel_rfl) Tryz.call104 (intValid0 h') ?_
  rintro v2 u2 l2 rfl
  refine G.call0 _ _ (by kernel_rfl) Tryz.call125 (intRead0 h) ?_
  intro v3 u3 l3 k3
  obtain ⟨b3, a3, n3, c3, rfl⟩ := k3.opn
  refine G.call0 _ _ (by kernel_rfl) Tryz.call125 (intRead0 h') ?_
  intro v4 u4 l4 k4
  obtain ⟨b4, a4, n4, c4, rfl⟩ := k4.opn
  refine G.call0 _ _ (by kernel_rfl) Tryz.call108 (numCompare0 (k3.mono l4) k4 (Nat.le_trans (nl_of_dig h) (by omega)) (Nat.le_trans (nl_of_dig h') (by omega))) ?_
  rintro v5 u5 l5 rfl
  exact G.ret _ (by kernel_rfl) ⟨rfl, rfl⟩
theorem ratValid0 {u : PH} {q : Rat} (h : Tx q) : Fn0 Tryz.prog 52 [.string (mkS (ratT q))] u fun v _ => v = .bool true := by
  refine Fn0.of Tryz.func52 (by kernel_rfl) (by kernel_rfl) ?_
  refine G.call0 _ _ (by kernel_rfl) Tryz.call103 (cutT h) ?_
  rintro v1 u1 l1 rfl
  refine G.call0 _ _ (by kernel_rfl) Tryz.call104 (intValid0 h.1) ?_
  rintro v2 u2 l2 rfl
  by_cases hd : q.den = 1
  · rw [if_pos hd, decide_eq_false (by simp [hd])]
    refine G.call0 _ _ (by kernel_rfl) Tryz.call104 (intValid0 h.1) ?_
    rintro v3 u3 l3 rfl
    exact G.ret (.bool true) (by kernel_rfl) ⟨rfl, rfl⟩
  · rw [if_neg hd, decide_eq_true hd]
    have hn := num_ne hd
    have hdn := q.den_nz
    refine G.eqSF (Lib.itoa q.num) [48] (by kernel_rfl) (fun e => hn (itoa_inj (e.trans itoa_zero.symm))) ?_
    refine G.call0 _ _ (by kernel_rfl) Tryz.call104 (intValid0 h.den) ?_
    rintro v3 u3 l3 rfl
    have hc := intCompare0 (u := u3) (y := (q.den : Int)) (z := 1) h.den (by rw [Lib.nDigits_small (by decide)]; omega)
    rw [itoa_one] at hc
    refine G.call0 _ _ (by kernel_rfl) Tryz.call105 hc ?_
    rintro v4 u4 l4 rfl
    refine G.leqF (sgn ((q.den : Int) - 1)) 0 (by kernel_rfl) (by rw [sgn_pos (by omega)]; omega) ?_
    refine G.call0 _ _ (by kernel_rfl) Tryz.call106 (numRead0 h.1) ?_
    intro v5 u5 l5 k5
    obtain ⟨b5, a5, n5, c5, rfl⟩ := k5.opn
    refine G.call0 _ _ (by kernel_rfl) Tryz.call106 (numRead0 h.den) ?_
    intro v6 u6 l6 k6
    obtain ⟨b6, a6, n6, c6, rfl⟩ := k6.opn
    refine G.call0 _ _ (by kernel_rfl) Tryz.call107 (numGcd0 (k5.mono l6) k6 (Nat.le_trans (nl_of_dig h.1) (by omega)) (Nat.le_trans (nl_of_dig h.den) (by omega))) ?_
    intro v7 u7 l7 k7
    rw [show Nat.gcd q.num.natAbs ((q.den : Int)).natAbs = 1 from q.reduced] at k7
    obtain ⟨b7, a7, n7, c7, rfl⟩ := k7.opn
    refine G.call0 _ _ (by kernel_rfl) Tryz.call109 (numOf0 (z := 1) (by omega) (by omega)) ?_
    intro v8 u8 l8 k8
    obtain ⟨b8, a8, n8, c8, rfl⟩ := k8.opn
    refine G.call0 _ _ (by kernel_rfl) Tryz.call108 (numCompare0 (k7.mono l8) k8 (Nat.le_trans nl_one (by omega)) (Nat.le_trans nl_one (by omega))) ?_
    rintro v9 u9 l9 rfl
    refine G.eqlT (sgn (((1 : Nat) : Int) - 1)) 0 (by kernel_rfl) (by decide) ?_
    exact G.ret (.bool true) (by kernel_rfl) ⟨rfl, rfl⟩
end Go.Proofs.YtikfmknnbjocmaaGreatDoor
end
section
set_option linter.unusedSectionVars false
set_option linter.unusedVariables false
namespace Go.Proofs.YtikfmknnbjocmaaGreatDoor
open Go.RowKit
end Go.Proofs.YtikfmknnbjocmaaGreatDoor
end
section
set_option linter.unusedSectionVars false
set_option linter.unusedVariables false
namespace Go.Proofs.YtikfmknnbjocmaaGreatDoor
variable [Flag]
open Go.RowKit
def SV.pub (k g : Nat) : SV → SV
  | .p j off => cond (Nat.beq j k) (.v (.pointer (some ⟨g, off, none⟩))) (.p j off)
  | x => x
def Blk.pub (k g : Nat) (b : Blk) : Blk := ⟨b.t, b.cells.map (SV.pub k g)⟩
def S.pub (s : S) (k g : Nat) : S := { n := s.n, tm := fun d => (s.tm d).pub k g, hp := fun j => cond (Nat.beq j k) none ((s.hp j).map (Blk.pub k g)) }
theorem SV.pub_den (k : Nat) (ρ : Nat → Nat) (x : SV) : (x.pub k (ρ k)).den ρ = x.den ρ := by
  cases x with
  | junk => rfl
  | v x => rfl
  | p j off =>
    cases hb : Nat.beq j k with
    | true => have := Nat.eq_of_beq_eq_true hb; subst this; simp [SV.pub, SV.den]
    | false => simp [SV.pub, hb]
theorem SV.pub_junk {k g : Nat} {x : SV} : x.pub k g ≠ .junk ↔ x ≠ .junk := by
  cases x with
  | junk => simp [SV.pub]
  | v x => simp [SV.pub]
  | p j off => cases hb : Nat.beq j k <;> simp [SV.pub, hb]
theorem SV.pub_p {k g j off : Nat} {x : SV} (h : x.pub k g = .p j off) : x = .p j off ∧ j ≠ k := by
  cases x with
  | junk => cases h
  | v x => cases h
  | p j' off' =>
    cases hb : Nat.beq j' k with
    | true => simp [SV.pub, hb] at h
    | false =>
      simp [SV.pub, hb] at h
      obtain ⟨rfl, rfl⟩ := h
      exact ⟨rfl, fun e => by subst e; simp at hb⟩
theorem pub_hp_same (s : S) (k g : Nat) : (s.pub k g).hp k = none := by simp [S.pub]
theorem pub_hp_ne (s : S) {k g j : Nat} (h : j ≠ k) : (s.pub k g).hp j = (s.hp j).map (Blk.pub k g) := by
  have : Nat.beq j k = false := by rw [← Bool.not_eq_true]; exact fun hh => h (Nat.eq_of_beq_eq_true hh)
  simp [S.pub, this]
section rules
variable {c : Cx} {s : S} {u m : PH} {ρ : Nat → Nat} {a : Act} {w : World}
theorem Rel.pub (h : Rel c s u m ρ a w) {k : Nat} {t : TypeId} {xs : List Value} (hk : s.hp k = some ⟨t, xs.map SV.v⟩) : Rel c (s.pub k (ρ k)) u (m.upd (ρ k) (.cells xs.toArray t (0, 0))) ρ a w := by
  obtain ⟨⟨cs, e1, e2, e3⟩, e4, e5, e6⟩ := h.box k _ hk
  have hcs : cs = xs.toArray := by
    apply Array.ext
    · simpa using e2
    · intro i h1 h2
      have := e3 i (.v xs[i]) (by simp at h2; simp [h2]) (by simp)
      rw [Array.getElem?_eq_getElem h1] at this
      simpa [SV.den] using this
  subst hcs
  have hne : ∀ j, s.hp j ≠ none → j ≠ k → ρ j ≠ ρ k := fun j hj hjk e => hjk (h.inj j k hj (by rw [hk]; simp) e)
  refine ⟨h.sz, fun d hd => ?_, h.df, fun j b hb => ?_, fun i j hi hj he => ?_, ⟨fun d j off hd => ?_, fun i b j off hi hm => ?_⟩, ⟨h.gd.pu, fun g o hg => ?_, fun g => ?_, h.gd.cl⟩, ⟨h.gr.sz, h.gr.old, h.gr.us, fun g hg hm => ?_, h.gr.io, h.gr.dr⟩⟩
  · have hd' : s.tm d ≠ .junk := SV.pub_junk.1 hd
    show a.tmps[d]? = some (((s.tm d).pub k (ρ k)).den ρ)
    rw [SV.pub_den]; exact h.tm d hd'
  · by_cases hjk : j = k
    · subst hjk; rw [pub_hp_same] at hb; cases hb
    · rw [pub_hp_ne _ hjk] at hb
      obtain ⟨b0, hb0, rfl⟩ := Option.map_eq_some_iff.1 hb
      obtain ⟨⟨cs', f1, f2, f3⟩, f4, f5, f6⟩ := h.box j b0 hb0
      refine ⟨⟨cs', f1, by simp [Blk.pub, f2], fun i x hi hx => ?_⟩, f4, f5, ?_⟩
      · simp only [Blk.pub, List.getElem?_map] at hi
        obtain ⟨y, hy, rfl⟩ := Option.map_eq_some_iff.1 hi
        rw [SV.pub_den]; exact f3 i y hy (SV.pub_junk.1 hx)
      · rw [upd_ne _ _ (hne j (by rw [hb0]; simp) hjk)]; exact f6
  · have h1 : ∀ j, (s.pub k (ρ k)).hp j ≠ none → s.hp j ≠ none := by
      intro j hj hn
      by_cases hjk : j = k
      · subst hjk; exact hj (pub_hp_same _ _ _)
      · rw [pub_hp_ne _ hjk, hn] at hj; exact hj rfl
    exact h.inj i j (h1 i hi) (h1 j hj) he
  · obtain ⟨h1, h2⟩ := SV.pub_p hd
    rw [pub_hp_ne _ h2]
    have := h.lv.1 d j off h1
    intro hn; exact this (by simpa using hn)
  · by_cases hik : i = k
    · subst hik; rw [pub_hp_same] at hi; cases hi
    · rw [pub_hp_ne _ hik] at hi
      obtain ⟨b0, hb0, rfl⟩ := Option.map_eq_some_iff.1 hi
      simp only [Blk.pub, List.mem_map] at hm
      obtain ⟨y, hy, hyp⟩ := hm
      obtain ⟨rfl, h2⟩ := SV.pub_p hyp
      rw [pub_hp_ne _ h2]
      have := h.lv.2 i b0 j off hb0 hy
      intro hn; exact this (by simpa using hn)
  · by_cases hg' : g = ρ k
    · subst hg'; rw [upd_same] at hg; simp only [Option.some.injEq] at hg; subst hg; exact e1
    · rw [upd_ne _ _ hg'] at hg; exact h.gd.pm g o hg
  · by_cases hg' : g = ρ k
    · subst hg'; exact .inl e5
    · rw [upd_ne _ _ hg']; exact h.gd.ap g
  · rw [upd_ne _ _ (by omega)]; exact h.gr.ms g hg hm
end rules
section rules2
variable {P : Program} [Mixed P] {fn : Func} {Post : Spec} {st : List KI × S} {u m : PH}
theorem G.pub (k : Nat) (t : TypeId) (xs : List Value) (h : noReg (ctl P 100 st).1 = true) (hb : (ctl P 100 st).2.hp k = some ⟨t, xs.map SV.v⟩)
    (kk : ∀ g, u g = none → m g = none → G P fn Post ((ctl P 100 st).1, (ctl P 100 st).2.pub k g) u (m.upd g (.cells xs.toArray t (0, 0)))) : G P fn Post st u m := by
  refine ⟨ctl_sound 100 st ?_⟩
  rw [Sym.ofNo h]
  intro c ρ a w hm0 hr
  obtain ⟨_, _, e5, e6⟩ := hr.box k _ hb
  have := (kk (ρ k) e5 e6).out
  rw [Sym.ofNo (by exact h)] at this
  exact this c ρ a w hm0 (hr.pub hb)
end rules2
end Go.Proofs.YtikfmknnbjocmaaGreatDoor
end
section
set_option linter.unusedSectionVars false
set_option linter.unusedVariables false
namespace Go.Proofs.YtikfmknnbjocmaaGreatDoor
variable [Flag]
open Go.RowKit
def PH.or (x y : PH) : PH := fun g => match x g with | some o => some o | none => y g
theorem PH.or_l {x y : PH} {g : Nat} {o : Obj} (h : x g = some o) : x.or y g = some o := by simp [PH.or, h]
theorem PH.or_r {x y : PH} {g : Nat} (h : x g = none) : x.or y g = y g := by simp [PH.or, h]
theorem Good.frameM {u mf mc u' mc' : PH} {w w' : World} (h : Good u (mf.or mc) w) (hd : Apart mf mc) (g1 : Good u' mc' w') (g2 : Grown u mc w u' mc' w') : Good u' (mf.or mc') w' ∧ Grown u (mf.or mc) w u' (mf.or mc') w' := by
  have hmf : ∀ g o, mf g = some o → g < w.heap.size ∧ mc g = none ∧ w'.heap[g]? = some o ∧ u' g = none := by
    intro g o hg
    have h1 := h.pm g o (PH.or_l hg)
    have h2 : mc g = none := (hd g).resolve_left (by rw [hg]; simp)
    have hlt := lt_of_at h1
    refine ⟨hlt, h2, by rw [g2.old g hlt h2]; exact h1, ?_⟩
    rw [g2.us g hlt]
    exact (h.ap g).resolve_right (by rw [PH.or_l hg]; simp)
  refine ⟨⟨g1.pu, fun g o hg => ?_, fun g => ?_, g1.cl⟩, ⟨g2.sz, fun g hg hm => ?_, g2.us, fun g hg hm => ?_, g2.io, g2.dr⟩⟩
  · cases hx : mf g with
    | some o' => rw [PH.or_l hx] at hg; cases hg; exact (hmf g _ hx).2.2.1
    | none => rw [PH.or_r hx] at hg; exact g1.pm g o hg
  · cases hx : mf g with
    | some o' => exact .inl (hmf g _ hx).2.2.2
    | none => rw [PH.or_r hx]; exact g1.ap g
  · cases hx : mf g with
    | some o' => rw [PH.or_l hx] at hm; cases hm
    | none => rw [PH.or_r hx] at hm; exact g2.old g hg hm
  · cases hx : mf g with
    | some o' => rw [PH.or_l hx] at hm; cases hm
    | none => rw [PH.or_r hx] at hm ⊢; exact g2.ms g hg hm
section rules
variable {P : Program} [Mixed P] {fn : Func} {Post : Spec} {st : List KI × S} {u m : PH}
def noDr (st : List KI × S) : Bool := match st.1 with
  | .reg _ _ false _ :: _ => true
  | .reg _ ops true (i :: _) :: _ => match ops[i]? with | some o => lateB ops i o.op || allOwn ops st.2 | none => false
  | _ => false
theorem noDr_late {id : Nat} {ops : Array Oper} {dr : Bool} {i : Nat} {l : List Nat} {k : List KI} {s : S} {o : Oper} (ho : ops[i]? = some o) (h : noDr (.reg id ops dr (i :: l) :: k, s) = true) : dr = false ∨ lateB ops i o.op = true ∨ allOwn ops s = true := by
  cases dr with
  | false => exact .inl rfl
  | true => right; simpa [noDr, ho] using h
theorem G.bigN {V : Stop} {K : Value → PH → PH → Prop} (h : stopV P (adv P st) = V) (hV : V ≠ .other) (hdr : noDr (adv P st) = true) (hf : ∀ env op, viewOp P env op = V → freeOp op = false)
    (hr : ∀ env (o : Oper), viewOp P env o.op = V → ∀ w, Good u m w → OpDoes P env o w fun v w' => ∃ u' m', Good u' m' w' ∧ Grown u m w u' m' w' ∧ K v u' m')
    (k : ∀ v u' m', PH.le u u' → K v u' m' → G P fn Post (nx (adv P st) v) u' m') : G P fn Post st u m := by
  refine G.stp ?_
  obtain ⟨id, ops, dr, i, l, kk, s, o, e, ho, hg, hd, hv, hs, hview, hnx⟩ := stopV_spec h hV
  have hdr' := noDr_late ho (e ▸ hdr)
  rw [e]
  refine ⟨?_⟩
  refine Ob.big (K := K) ho hg hd hv hs (hf _ _ hview) (fun v u' m' hK => .inr hdr') (fun w hgd => hr _ o hview w hgd) (fun v u' m' h1 h2 => ?_)
  have := (k v u' m' h1 h2).out
  rw [hnx] at this
  exact this
end rules
end Go.Proofs.YtikfmknnbjocmaaGreatDoor
end
section
set_option linter.unusedSectionVars false
set_option linter.unusedVariables false
namespace Go.Proofs.YtikfmknnbjocmaaGreatDoor
open Go.RowKit
end Go.Proofs.YtikfmknnbjocmaaGreatDoor
end
section
set_option linter.unusedSectionVars false
set_option linter.unusedVariables false
namespace Go.Proofs.YtikfmknnbjocmaaGreatDoor
open Go.RowKit
end Go.Proofs.YtikfmknnbjocmaaGreatDoor
end
section
set_option linter.unusedSectionVars false
set_option linter.unusedVariables false
namespace Go.Proofs.YtikfmknnbjocmaaGreatDoor
open Go.RowKit
theorem ratT_zero : ratT 0 = [48] := by rw [ratT, if_pos (by rfl)]; exact itoa_zero
theorem ratT_one : ratT 1 = [49] := by rw [ratT, if_pos (by rfl)]; exact itoa_one
end Go.Proofs.YtikfmknnbjocmaaGreatDoor
end
section
set_option linter.unusedSectionVars false
set_option linter.unusedVariables false
namespace Go.Proofs.YtikfmknnbjocmaaGreatDoor
open Go.RowKit
theorem mt_or (mc : PH) : PH.mt.or mc = mc := by funext g; rfl
theorem apart_mt (mc : PH) : Apart PH.mt mc := fun _ => .inl rfl
end Go.Proofs.YtikfmknnbjocmaaGreatDoor
end
section
set_option linter.unusedSectionVars false
set_option linter.unusedVariables false
namespace Go.Proofs.YtikfmknnbjocmaaGreatDoor
variable [Flag]
open Go.RowKit
section rules
variable {P : Program} [Mixed P] {fn : Func} {Post : Spec} {st : List KI × S} {u m : PH}
theorem G.storeM (sz b off : Nat) (t : TypeId) (cs : List Value) (e : Value) (h : stopV P (adv P st) = .store (some sz) (.pointer (some ⟨b, off, none⟩)) e) (hb : m b = some (.cells cs.toArray t (0, 0))) (ho : ∀ x ∈ cs, cellOK x = true) (hl : off + sz ≤ cs.length) (he : e.cells.size = sz) (hc : e.cells.toList.all cellOK = true)
    (k : G P fn Post (nx (adv P st) undef) u (m.upd b (.cells (cs.take off ++ e.cells.toList ++ cs.drop (off + sz)).toArray t (0, 0)))) : G P fn Post st u m := by
  refine G.big (K := fun v' u' m' => u' = u ∧ v' = undef ∧ m' = m.upd b (.cells (cs.take off ++ e.cells.toList ++ cs.drop (off + sz)).toArray t (0, 0))) h (by simp) (fun env op hv => ?_) (.inr fun env op hv => ?_) (fun env o hview w hgd => ?_) (fun v' u' m' _ hk => ?_)
  · obtain ⟨t', X, Y, rfl, _⟩ := view_store hv; rfl
  · obtain ⟨t', X, Y, rfl, _⟩ := view_store hv; rfl
  · obtain ⟨t', X, Y, e1, e2, e3, ht⟩ := view_store hview
    obtain ⟨dst, opp, type, pos, after, guard⟩ := o
    simp only at e1; subst e1
    rw [List.all_eq_true] at hc
    have hgw := hgd.pm b _ hb
    have hst := run_storeCells_at P b off t e.cells.toList 0 cs.toArray w hgw (by simp [he]; omega) (fun x hx => cellOK_one (hc x hx))
    simp only [Nat.add_zero, Array.length_toList, he, List.toList_toArray] at hst
    have hcell : ∀ x ∈ (cs.take off ++ e.cells.toList ++ cs.drop (off + sz)).toArray.toList, cellOK x = true := by
      intro x hx
      simp only [List.toList_toArray, List.mem_append] at hx
      rcases hx with (hx | hx) | hx
      · exact ho x (List.mem_of_mem_take hx)
      · exact hc x hx
      · exact ho x (List.mem_of_mem_drop hx)
    obtain ⟨g1, g2⟩ := hgd.setM hb hcell
    unfold OpDoes
    have hex : (execOp env ⟨dst, .store t' X Y, type, pos, after, guard⟩).run P w = .ok .skip (w.setRow b (cs.take off ++ e.cells.toList ++ cs.drop (off + sz)).toArray) := by
      simp only [execOp, e2, e3]
      simp only [List.append_assoc] at hst ⊢
      simp [Instr.storeAt, Instr.sureAddr, storeVar, run_sizeOf' ht, he, hst]
    rw [hex]
    exact ⟨u, _, g1, g2, rfl, rfl, rfl⟩
  · obtain ⟨rfl, rfl, rfl⟩ := hk
    exact k
end rules
end Go.Proofs.YtikfmknnbjocmaaGreatDoor
end
section
set_option linter.unusedSectionVars false
set_option linter.unusedVariables false
namespace Go.Proofs.YtikfmknnbjocmaaGreatDoor
variable [Flag]
section rules
variable {P : Program} [Mixed P] {fn : Func} {Post : Spec} {st : List KI × S} {u m : PH}
theorem Rel.less {c : Cx} {s : S} {ρ : Nat → Nat} {a : Act} {w : World} (h : Rel c s u m ρ a w) {m' : PH} (hl : PH.le m' m) : Rel c s u m' ρ a w := by
  have hn : ∀ g, m g = none → m' g = none := fun g hg => by
    cases e : m' g with
    | none => rfl
    | some o => rw [hl g o e] at hg; cases hg
  refine ⟨h.sz, h.tm, h.df, fun k b hb => ?_, h.inj, h.lv, h.gd.less hl, ⟨h.gr.sz, h.gr.old, h.gr.us, fun g hg hm => hn g (h.gr.ms g hg hm), h.gr.io, h.gr.dr⟩⟩
  obtain ⟨e1, e2, e3, e4⟩ := h.box k b hb
  exact ⟨e1, e2, e3, hn _ e4⟩
theorem G.drop (m' : PH) (h : noReg (ctl P 100 st).1 = true) (hl : PH.le m' m) (k : G P fn Post (ctl P 100 st) u m') : G P fn Post st u m := by
  refine ⟨ctl_sound 100 st ?_⟩
  have hk := k.out
  rw [Sym.ofNo h] at hk ⊢
  intro c ρ a w hm0 hr
  exact hk c ρ a w hm0 (hr.less hl)
theorem PH.mt_le (m : PH) : PH.le PH.mt m := fun _ _ h => by cases h
end rules
end Go.Proofs.YtikfmknnbjocmaaGreatDoor
end
section
set_option linter.unusedSectionVars false
set_option linter.unusedVariables false
namespace Go.Proofs.YtikfmknnbjocmaaGreatDoor
open Go.RowKit
theorem elP_int (m : PH) (g : Nat) (z : Int) (t : TypeId) : ElP (m.upd g (.cells [Value.int .i64 z].toArray t (0, 0))) g 0 (.int .i64 z) := fun i y hy => by
  match i, hy with
  | 0, hy => simp [Value.cells] at hy; subst hy; exact ⟨_, _, _, upd_same _ _ _, rfl⟩
end Go.Proofs.YtikfmknnbjocmaaGreatDoor
end
section
set_option linter.unusedSectionVars false
set_option linter.unusedVariables false
namespace Go.Proofs.YtikfmknnbjocmaaGreatDoor
open Go.RowKit
end Go.Proofs.YtikfmknnbjocmaaGreatDoor
end
section
set_option linter.unusedSectionVars false
set_option linter.unusedVariables false
namespace Go.Proofs.YtikfmknnbjocmaaGreatDoor
open Go.RowKit
section lists
variable {α : Type} {R : PH → Value → α → Prop} {u u' : PH}
end lists
theorem ArrAt.some' {m0 m : PH} {t : TypeId} {sz : Nat} {es : List Value} {a : Addr} {n c : Nat} (ha : ArrAt m0 m (.slice (some a) n c) t sz es) : ∃ g, a = ⟨g, 0, none⟩ ∧ m0 g = none := by
  rcases ha.2 with ⟨h, _, _⟩ | ⟨g, cap, rest, h0, _, h, _⟩
  · simp at h
  · simp only [Value.slice.injEq, Option.some.injEq] at h
    exact ⟨g, h.1, h0⟩
end Go.Proofs.YtikfmknnbjocmaaGreatDoor
end
section
set_option linter.unusedSectionVars false
set_option linter.unusedVariables false
namespace Go.Proofs.YtikfmknnbjocmaaGreatDoor
open Go.RowKit
end Go.Proofs.YtikfmknnbjocmaaGreatDoor
end
section
set_option linter.unusedSectionVars false
set_option linter.unusedVariables false
namespace Go.Proofs.YtikfmknnbjocmaaGreatDoor
variable [Flag]
open Go.RowKit
structure Arr where
  v : Value
  t : TypeId
  sz : Nat
  es : List Value
def Arr.At (a : Arr) (m0 m : PH) : Prop := ArrAt m0 m a.v a.t a.sz a.es
def Bag : PH → List Arr → Prop
  | _, [] => True
  | m, a :: l => ∃ m0, a.At m0 m ∧ Bag m0 l
theorem upd_comm (m : PH) {g h : Nat} (o p : Obj) (hn : g ≠ h) : (m.upd g o).upd h p = (m.upd h p).upd g o := by
  funext k
  unfold PH.upd
  by_cases h1 : k = g
  · subst h1; simp [hn]
  · by_cases h2 : k = h
    · subst h2; simp [h1]
    · simp [h1, h2]
theorem At.swap {x y : Arr} {m0 m1 m : PH} (hy : y.At m1 m) (hx : x.At m0 m1) : ∃ m2, y.At m0 m2 ∧ x.At m2 m ∧ ∀ (x' : Arr) m', x'.At m2 m' → ∃ m1', y.At m1' m' ∧ x'.At m0 m1' := by
  obtain ⟨oy, hy⟩ := hy
  rcases hy with ⟨y1, y2, rfl⟩ | ⟨h, cap, rest, y1, rfl, y2, y3, y4, y5⟩
  · exact ⟨m0, ⟨oy, .inl ⟨y1, y2, rfl⟩⟩, hx, fun x' m' hx' => ⟨m', ⟨oy, .inl ⟨y1, y2, rfl⟩⟩, hx'⟩⟩
  · obtain ⟨ox, hx⟩ := hx
    rcases hx with ⟨x1, x2, rfl⟩ | ⟨g, cap', rest', x1, rfl, x2, x3, x4, x5⟩
    · refine ⟨_, ⟨oy, .inr ⟨h, cap, rest, y1, rfl, y2, y3, y4, y5⟩⟩, ⟨ox, .inl ⟨x1, x2, rfl⟩⟩, fun x' m' hx' => ?_⟩
      obtain ⟨ox', hx'⟩ := hx'
      rcases hx' with ⟨z1, z2, rfl⟩ | ⟨g', cap'', rest'', z1, rfl, z2, z3, z4, z5⟩
      · exact ⟨_, ⟨oy, .inr ⟨h, cap, rest, y1, rfl, y2, y3, y4, y5⟩⟩, ⟨ox', .inl ⟨z1, z2, rfl⟩⟩⟩
      · have hne : g' ≠ h := fun e => by subst e; rw [upd_same] at z1; cases z1
        rw [upd_ne _ _ hne] at z1
        refine ⟨_, ⟨oy, .inr ⟨h, cap, rest, ?_, upd_comm _ _ _ hne.symm, y2, y3, y4, y5⟩⟩, ⟨ox', .inr ⟨g', cap'', rest'', z1, rfl, z2, z3, z4, z5⟩⟩⟩
        rw [upd_ne _ _ hne.symm]; exact y1
    · have hne : h ≠ g := fun e => by subst e; rw [upd_same] at y1; cases y1
      rw [upd_ne _ _ hne] at y1
      refine ⟨_, ⟨oy, .inr ⟨h, cap, rest, y1, rfl, y2, y3, y4, y5⟩⟩, ⟨ox, .inr ⟨g, cap', rest', ?_, upd_comm _ _ _ hne.symm, x2, x3, x4, x5⟩⟩, fun x' m' hx' => ?_⟩
      · rw [upd_ne _ _ hne.symm]; exact x1
      · obtain ⟨ox', hx'⟩ := hx'
        rcases hx' with ⟨z1, z2, rfl⟩ | ⟨g', cap'', rest'', z1, rfl, z2, z3, z4, z5⟩
        · exact ⟨_, ⟨oy, .inr ⟨h, cap, rest, y1, rfl, y2, y3, y4, y5⟩⟩, ⟨ox', .inl ⟨z1, z2, rfl⟩⟩⟩
        · have hne' : g' ≠ h := fun e => by subst e; rw [upd_same] at z1; cases z1
          rw [upd_ne _ _ hne'] at z1
          refine ⟨_, ⟨oy, .inr ⟨h, cap, rest, ?_, upd_comm _ _ _ hne'.symm, y2, y3, y4, y5⟩⟩, ⟨ox', .inr ⟨g', cap'', rest'', z1, rfl, z2, z3, z4, z5⟩⟩⟩
          rw [upd_ne _ _ hne'.symm]; exact y1
theorem Bag.focus : ∀ {l : List Arr} {m : PH} (_ : Bag m l) (i : Nat) {x : Arr}, l[i]? = some x → ∃ m0, x.At m0 m ∧ ∀ (x' : Arr) m', x'.At m0 m' → Bag m' (l.set i x')
  | [], m, _, i, x, hi => by simp at hi
  | y :: l, m, ⟨m1, hy, hl⟩, 0, x, hi => by
    simp at hi; subst hi
    exact ⟨m1, hy, fun x' m' hx' => ⟨m1, hx', hl⟩⟩
  | y :: l, m, ⟨m1, hy, hl⟩, i + 1, x, hi => by
    simp at hi
    obtain ⟨m0, hx, hput⟩ := Bag.focus hl i hi
    obtain ⟨m2, hy2, hx2, hk⟩ := At.swap hy hx
    refine ⟨m2, hx2, fun x' m' hx' => ?_⟩
    obtain ⟨m1', k1, k2⟩ := hk x' m' hx'
    exact ⟨m1', k1, hput x' m1' k2⟩
theorem Bag.el {l : List Arr} {m : PH} (h : Bag m l) (i : Nat) {x : Arr} (hi : l[i]? = some x) {b n c j : Nat} {e : Value} (hv : x.v = .slice (some ⟨b, 0, none⟩) n c) (hj : x.es[j]? = some e) : ElP m b (0 + j * x.sz) e := by
  obtain ⟨m0, hx, _⟩ := h.focus i hi
  unfold Arr.At at hx
  rw [hv] at hx
  exact hx.el hj
section rules
variable {P : Program} [Mixed P] {fn : Func} {Post : Spec} {st : List KI × S} {u m : PH}
theorem G.callO (f : Nat) (args : List Value) {R : Value → PH → PH → Prop} (h : stopV P (adv P st) = .call f args) (hc : ∀ args w, (callFunc f args).run P w = .ok (.enter f args) w) (c : Contract P f args u PH.mt R)
    (k : ∀ v u' mc, PH.le u u' → R v u' mc → (∀ g, mc g ≠ none → m g = none) → G P fn Post (nx (adv P st) v) u' (m.or mc)) : G P fn Post st u m := by
  refine G.big (K := fun v u' m' => ∃ mc, m' = m.or mc ∧ R v u' mc ∧ ∀ g, mc g ≠ none → m g = none) h (by simp) view_call_free (.inl fun v u' m' hK => ?_) (fun env o hview w hgd => ?_) (fun v u' m' h1 h2 => ?_)
  · obtain ⟨mc, rfl, _⟩ := hK
    exact fun g o hg => PH.or_l hg
  · refine does_call hview hc w _ (Calls.mono (c w hgd.noM) fun e w' he => ?_)
    obtain ⟨v, u', mc, e1, e2, e3, e4⟩ := he
    have hor : m.or PH.mt = m := by
      funext g; unfold PH.or; split
      · rename_i o e; rw [e]
      · rename_i e; rw [e]; rfl
    have hfr : ∀ g, mc g ≠ none → m g = none := fun g hg => by
      rcases Nat.lt_or_ge g w.heap.size with hlt | hge
      · exact absurd (e3.ms g hlt rfl) hg
      · exact hgd.pm.none hge
    obtain ⟨g1, g2⟩ := Good.frameM (mf := m) (mc := PH.mt) (by rw [hor]; exact hgd) (fun _ => .inr rfl) e2 e3
    rw [hor] at g2
    exact ⟨v, e1, u', m.or mc, g1, g2, mc, rfl, e4, hfr⟩
  · obtain ⟨mc, rfl, hR, hf⟩ := h2
    exact k v u' mc h1 hR hf
end rules
end Go.Proofs.YtikfmknnbjocmaaGreatDoor
end
section
set_option linter.unusedSectionVars false
set_option linter.unusedVariables false
namespace Go.Proofs.YtikfmknnbjocmaaGreatDoor
open Go.RowKit
section rules
variable {P : Program} [Mixed P] {fn : Func} {Post : Spec} {st : List KI × S} {u m : PH}
end rules
end Go.Proofs.YtikfmknnbjocmaaGreatDoor
end
section
namespace Go.Proofs.YtikfmknnbjocmaaGreatDoor
end Go.Proofs.YtikfmknnbjocmaaGreatDoor
end
section
namespace Go.Proofs.YtikfmknnbjocmaaGreatDoor
end Go.Proofs.YtikfmknnbjocmaaGreatDoor
end
section
namespace Go.Proofs.YtikfmknnbjocmaaGreatDoor
end Go.Proofs.YtikfmknnbjocmaaGreatDoor
end
section
namespace Go.Proofs.YtikfmknnbjocmaaGreatDoor
end Go.Proofs.YtikfmknnbjocmaaGreatDoor
end
section
set_option linter.unusedSectionVars false
set_option linter.unusedVariables false
namespace Go.Proofs.YtikfmknnbjocmaaGreatDoor
open Go.RowKit
section rules
variable {P : Program} [Mixed P] {fn : Func} {Post : Spec} {st : List KI × S} {u m : PH}
end rules
theorem ListP.take' {u : PH} {a : Option Addr} {n c sz : Nat} {es : List Value} (h : ListP u (.slice a n c) sz es) (k : Nat) (hk : k ≤ es.length) : ListP u (.slice a k c) sz (es.take k) := by
  obtain ⟨a', c', h1, h2, h3⟩ := h
  simp only [Value.slice.injEq] at h1
  obtain ⟨rfl, _, rfl⟩ := h1
  refine ⟨a, c, by rw [List.length_take, Nat.min_eq_left hk], by rw [List.length_take]; omega, fun j e hj => ?_⟩
  rw [List.getElem?_take] at hj
  split at hj
  · exact h3 j e hj
  · cases hj
end Go.Proofs.YtikfmknnbjocmaaGreatDoor
end
section
set_option linter.unusedSectionVars false
set_option linter.unusedVariables false
namespace Go.Proofs.YtikfmknnbjocmaaGreatDoor
open Go.RowKit
end Go.Proofs.YtikfmknnbjocmaaGreatDoor
end
section
set_option linter.unusedSectionVars false
set_option linter.unusedVariables false
namespace Go.Proofs.YtikfmknnbjocmaaGreatDoor
open Go.RowKit
section bag
variable {o : Arr} {rows : List (Value × List Value)} {rest : List Arr} {i j n : Nat} {r r' : Value × List Value} {x x' : Arr}
end bag
end Go.Proofs.YtikfmknnbjocmaaGreatDoor
end
section
set_option linter.unusedSectionVars false
set_option linter.unusedVariables false
namespace Go.Proofs.YtikfmknnbjocmaaGreatDoor
open Go.RowKit
section steps
variable {fn : Func} {Post : Spec} {u m : PH}
end steps
end Go.Proofs.YtikfmknnbjocmaaGreatDoor
end
section
set_option linter.unusedSectionVars false
set_option linter.unusedVariables false
namespace Go.Proofs.YtikfmknnbjocmaaGreatDoor
open Go.RowKit
end Go.Proofs.YtikfmknnbjocmaaGreatDoor
end
section
set_option linter.unusedSectionVars false
set_option linter.unusedVariables false
namespace Go.Proofs.YtikfmknnbjocmaaGreatDoor
open Go.RowKit
end Go.Proofs.YtikfmknnbjocmaaGreatDoor
end
section
namespace Go.Proofs.YtikfmknnbjocmaaGreatDoor
def smallB (q : Rat) : Bool := decide (q.num.natAbs < 10 ^ 100) && decide (q.den < 10 ^ 100)
end Go.Proofs.YtikfmknnbjocmaaGreatDoor
end
section
set_option linter.unusedSectionVars false
set_option linter.unusedVariables false
namespace Go.Proofs.YtikfmknnbjocmaaGreatDoor
open Go.RowKit
theorem dig_of_lt : ∀ {k n : Nat} (_ : 0 < k) (_ : n < 10 ^ k), Lib.nDigits n ≤ k
  | 0, n, hk, h => by omega
  | k + 1, n, hk, h => by
    by_cases hn : n < 10
    · rw [Lib.nDigits_small hn]; omega
    · rw [Lib.nDigits_big hn]
      have hk0 : 0 < k := by
        rcases Nat.eq_zero_or_pos k with h0 | h0
        · subst h0; simp at h; omega
        · exact h0
      have := dig_of_lt (k := k) (n := n / 10) hk0 (by rw [Nat.div_lt_iff_lt_mul (by omega), ← Nat.pow_succ]; exact h)
      omega
theorem smallB_spec {q : Rat} (h : smallB q = true) : Tx q ∧ Sz q 12 := by
  simp only [smallB, Bool.and_eq_true, decide_eq_true_eq] at h
  have h1 := dig_of_lt (by omega) h.1
  have h2 := dig_of_lt (by omega) h.2
  have e : (10 : Nat) ^ 100 ≤ 1000000000 ^ 12 := by decide
  exact ⟨⟨by omega, by omega⟩, nl_le_of_lt (Nat.lt_of_lt_of_le h.1 e), nl_le_of_lt (Nat.lt_of_lt_of_le h.2 e)⟩
end Go.Proofs.YtikfmknnbjocmaaGreatDoor
end
section
set_option linter.unusedSectionVars false
set_option linter.unusedVariables false
namespace Go.Proofs.YtikfmknnbjocmaaGreatDoor
open Go.RowKit
section rules
variable {P : Program} [Mixed P] {fn : Func} {Post : Spec} {st : List KI × S} {u m : PH}
end rules
end Go.Proofs.YtikfmknnbjocmaaGreatDoor
end
section
set_option linter.unusedSectionVars false
set_option linter.unusedVariables false
namespace Go.Proofs.YtikfmknnbjocmaaGreatDoor
variable [Flag]
open Go.RowKit
section rules
variable {P : Program} [Mixed P] {fn : Func} {Post : Spec} {st : List KI × S} {u m : PH}
theorem view_fieldA {env : Operand → Value} {o : Op} {t : TypeId} {x : Value} {f : Nat} (h : viewOp P env o = .fieldA t x f) : ∃ X, o = .fieldAddr t X f ∧ env X = x := by
  cases o <;> simp only [viewOp] at h <;> try cases h
  any_goals ((repeat' split at h) <;> cases h; done)
  · exact ⟨_, rfl, rfl⟩
theorem G.fieldA (t : TypeId) (b off f fo : Nat) (h : stopV P (adv P st) = .fieldA t (.pointer (some ⟨b, off, none⟩)) f) (hf : fieldOff P t f = some fo) (k : G P fn Post (nx (adv P st) (.pointer (some ⟨b, off + fo, none⟩))) u m) : G P fn Post st u m := by
  refine G.ask h (by simp) (fun env o hview w _ => ?_) k
  obtain ⟨X, e, e1⟩ := view_fieldA hview
  obtain ⟨dst, opp, type, pos, after, guard⟩ := o
  simp only at e; subst e
  unfold fieldOff at hf
  split at hf
  · rename_i fs hfs
    split at hf
    · rename_i fd hfd
      split at hf
      · rename_i n hn
        simp only [Option.some.injEq] at hf
        subst hf
        simp [execOp, Instr.fieldAt, run_underlying hfs, hfd, Instr.sureAddr, e1, fieldPlace, run_sizeOf' hn, addr_add]
      · cases hf
    · cases hf
  · cases hf
theorem G.remZ (x y z : Int) (h : stopV P (adv P st) = .bin .rem (.int .i64 x) (.int .i64 y)) (hy : 0 < y) (hy2 : y ≤ 9223372036854775807) (hz : x.tmod y = z)
    (k : G P fn Post (nx (adv P st) (.int .i64 z)) u m) : G P fn Post st u m := by
  refine G.bin _ h guard_int (fun t w => ?_) k
  have h4 : ¬ y = 0 := by omega
  have h5 : -y < z ∧ z < y := by
    rw [← hz]
    have a1 := Int.tmod_lt_of_pos x hy
    have a2 := Int.lt_tmod_of_pos x hy
    exact ⟨a2, a1⟩
  simp [binOp, Op.intDiv, h4, hz]
end rules
end Go.Proofs.YtikfmknnbjocmaaGreatDoor
end
section
set_option linter.unusedSectionVars false
set_option linter.unusedVariables false
namespace Go.Proofs.YtikfmknnbjocmaaGreatDoor
open Go.RowKit
end Go.Proofs.YtikfmknnbjocmaaGreatDoor
end
section
set_option linter.unusedSectionVars false
set_option linter.unusedVariables false
namespace Go.Proofs.YtikfmknnbjocmaaGreatDoor
open Go.RowKit
theorem or_mt (m : PH) : m.or PH.mt = m := by
  funext g; unfold PH.or; split
  · rename_i o e; rw [e]
  · rename_i e; rw [e]; rfl
theorem or_upd (m0 m : PH) {g : Nat} (o : Obj) (h : m0 g = none) : m0.or (m.upd g o) = (m0.or m).upd g o := by
  funext k
  by_cases e : k = g
  · subst e; rw [PH.or_r h, upd_same, upd_same]
  · rw [upd_ne _ _ e]
    unfold PH.or; split
    · rfl
    · rw [upd_ne _ _ e]
theorem ArrAt.list {m0 m u : PH} {v : Value} {t : TypeId} {sz : Nat} {es : List Value} (h : ArrAt m0 m v t sz es) (hl : PH.le m u) : ListP u v sz es := by
  obtain ⟨ho, h⟩ := h
  rcases h with ⟨rfl, rfl, _⟩ | ⟨g, cap, rest, _, rfl, rfl, hcap, hlen, _⟩
  · exact ListP.nil _ _ _ _
  · refine ⟨_, _, rfl, hcap, fun j e hj => ⟨g, 0, rfl, fun i x hx => ⟨_, _, _, hl _ _ (upd_same _ _ _), ?_⟩⟩⟩
    rw [List.getElem?_toArray, Nat.zero_add]
    have := flat_get ho hj hx
    rw [List.getElem?_append_left (by obtain ⟨h, _⟩ := List.getElem?_eq_some_iff.1 this; exact h)]; exact this
theorem Bag.list {l : List Arr} {m u : PH} (h : Bag m l) (hl : PH.le m u) (i : Nat) {x : Arr} (hi : l[i]? = some x) : ListP u x.v x.sz x.es := by
  obtain ⟨m0, hx, _⟩ := h.focus i hi
  exact ArrAt.list hx hl
section rules
variable [Flag] {P : Program} [Mixed P] {fn : Func} {Post : Spec} {st : List KI × S} {u m : PH}
theorem G.callA (f : Nat) (args : List Value) {mf mc : PH} {R : Value → PH → PH → Prop} (h : stopV P (adv P st) = .call f args) (hdr : noDr (adv P st) = true) (hc : ∀ args w, (callFunc f args).run P w = .ok (.enter f args) w) (hm : m = mf.or mc) (hd : Apart mf mc) (c : Contract P f args u mc R)
    (k : ∀ v u' mc', PH.le u u' → R v u' mc' → Apart mf mc' → G P fn Post (nx (adv P st) v) u' (mf.or mc')) : G P fn Post st u m := by
  subst hm
  refine G.bigN (K := fun v u' m' => ∃ mc', m' = mf.or mc' ∧ R v u' mc' ∧ Apart mf mc') h (by simp) hdr view_call_free (fun env o hview w hgd => ?_) (fun v u' m' h1 h2 => ?_)
  · have hgc : Good u mc w := hgd.less (fun g o hg => by
      cases hx : mf g with
      | some o' => have := (hd g).resolve_left (by rw [hx]; simp); rw [this] at hg; cases hg
      | none => rw [PH.or_r hx]; exact hg)
    refine does_call hview hc w _ (Calls.mono (c w hgc) fun e w' he => ?_)
    obtain ⟨v, u', mc', e1, e2, e3, e4⟩ := he
    obtain ⟨g1, g2⟩ := hgd.frameM hd e2 e3
    refine ⟨v, e1, u', mf.or mc', g1, g2, mc', rfl, e4, fun g => ?_⟩
    cases hx : mf g with
    | none => exact .inl rfl
    | some o =>
      right
      have hlt := lt_of_at (hgd.pm g o (PH.or_l hx))
      exact e3.ms g hlt ((hd g).resolve_left (by rw [hx]; simp))
  · obtain ⟨mc', rfl, hR, hA⟩ := h2
    exact k v u' mc' h1 hR hA
theorem G.giveP {ma sm : PH} (h : noReg (ctl P 100 st).1 = true) (hm : m = ma.or sm) (ha : Apart ma sm) (h0 : ∀ g, Post.m0 g = none ∨ sm g ≠ none) (k : ∀ u', PH.le u u' → PH.le ma u' → G P fn Post (ctl P 100 st) u' sm) : G P fn Post st u m := by
  subst hm
  refine ⟨ctl_sound 100 st ?_⟩
  rw [Sym.ofNo h]
  intro c ρ a w hm0 hr
  have hap : ∀ g o, ma g = some o → u g = none := fun g o hg => (hr.gd.ap g).resolve_right (by rw [PH.or_l hg]; simp)
  have hsm : ∀ g o, sm g = some o → ma g = none := fun g o hg => (ha g).resolve_right (by rw [hg]; simp)
  have hnew : ∀ g o, ma g = some o → c.w0.heap.size ≤ g := by
    intro g o hg
    rcases Nat.lt_or_ge g c.w0.heap.size with hlt | hge
    · have hpm : c.m0 g = none := by
        rw [hm0]
        rcases h0 g with e | e
        · exact e
        · cases hs : sm g with
          | none => exact absurd hs e
          | some o' => have := hsm g o' hs; rw [this] at hg; cases hg
      have := hr.gr.ms g hlt hpm
      rw [PH.or_l hg] at this; cases this
    · exact hge
  have hle : PH.le u (ma.or u) := fun g o hg => by
    cases hx : ma g with
    | none => rw [PH.or_r hx]; exact hg
    | some o' => have := hap g o' hx; rw [this] at hg; cases hg
  have hk := (k (ma.or u) hle (fun g o hg => PH.or_l hg)).out
  rw [Sym.ofNo h] at hk
  refine hk c ρ a w hm0 ⟨hr.sz, hr.tm, hr.df, fun kk b hb => ?_, hr.inj, hr.lv, ⟨fun g' o hg => ?_, fun g' o hg => ?_, fun g' => ?_, fun g' cs t' fr j z hg hj => ?_⟩, ⟨hr.gr.sz, hr.gr.old, fun g' hg => ?_, fun g' hg hm => ?_, hr.gr.io, hr.gr.dr⟩⟩
  · obtain ⟨e1, e2, e3, e4⟩ := hr.box kk b hb
    have hma : ma (ρ kk) = none := by
      cases hx : ma (ρ kk) with
      | none => rfl
      | some o => rw [PH.or_l hx] at e4; cases e4
    rw [PH.or_r hma] at e4
    exact ⟨e1, e2, by rw [PH.or_r hma]; exact e3, e4⟩
  · cases hx : ma g' with
    | some o' => rw [PH.or_l hx] at hg; cases hg; exact hr.gd.pm g' _ (PH.or_l hx)
    | none => rw [PH.or_r hx] at hg; exact hr.gd.pu g' o hg
  · exact hr.gd.pm g' o (by rw [PH.or_r (hsm g' o hg)]; exact hg)
  · cases hx : ma g' with
    | some o' => right; exact (ha g').resolve_left (by rw [hx]; simp)
    | none =>
      rw [PH.or_r hx]
      have := hr.gd.ap g'
      rw [PH.or_r hx] at this; exact this
  · cases hx : ma g' with
    | some o' =>
      rw [PH.or_l hx, ← hg]
      exact (hr.gd.pm g' _ (PH.or_l hx)).symm
    | none => rw [PH.or_r hx]; exact hr.gd.cl g' cs t' fr j z hg hj
  · have hx : ma g' = none := by
      cases hx : ma g' with
      | none => rfl
      | some o => have := hnew g' o hx; omega
    rw [PH.or_r hx]; exact hr.gr.us g' hg
  · have := hr.gr.ms g' hg hm
    cases hx : ma g' with
    | some o => have := hnew g' o hx; omega
    | none => rw [PH.or_r hx] at this; exact this
end rules
structure Src where
  g : Nat
  a : Option Addr
  n : Nat
  c : Nat
def Src.ptr (s : Src) : Value := .pointer (some ⟨s.g, 0, none⟩)
def Src.el (s : Src) (k : Nat) : Value := .agg #[.slice s.a s.n s.c, .int .i64 (k : Int)]
def Src.M (s : Src) (k : Nat) : PH := PH.mt.upd s.g (.cells #[.slice s.a s.n s.c, .int .i64 (k : Int)] 71 (0, 0))
def Src.arr (s : Src) (k : Nat) : Arr := ⟨.slice (some ⟨s.g, 0, none⟩) 1 1, 71, 2, [s.el k]⟩
theorem Src.el_ok (s : Src) (k : Nat) : ElsOK 2 [s.el k] := by
  intro x hx
  simp at hx; subst hx
  exact ⟨rfl, fun y hy => by simp [Src.el, Value.cells] at hy; rcases hy with rfl | rfl <;> rfl⟩
theorem Src.at {s : Src} {k : Nat} {m0 : PH} (h : m0 s.g = none) : (s.arr k).At m0 (m0.or (s.M k)) := by
  refine ⟨s.el_ok k, .inr ⟨s.g, 1, [], h, ?_, rfl, Nat.le_refl _, rfl, by simp⟩⟩
  unfold Src.M
  rw [or_upd _ _ _ h, or_mt]; rfl
theorem Src.split {s : Src} {k : Nat} {m0 m : PH} (h : (s.arr k).At m0 m) : m = m0.or (s.M k) ∧ m0 s.g = none := by
  obtain ⟨_, h⟩ := h
  rcases h with ⟨h, _, _⟩ | ⟨g, cap, rest, h1, rfl, h2, h3, h4, h5⟩
  · simp [Src.arr] at h
  · simp only [Src.arr, Value.slice.injEq, Option.some.injEq, Addr.mk.injEq, and_true] at h2
    obtain ⟨rfl, _, rfl⟩ := h2
    have hr : rest = [] := by
      simp [Src.arr, flat, Src.el, Value.cells] at h4
      exact h4
    subst hr
    refine ⟨?_, h1⟩
    unfold Src.M
    rw [or_upd _ _ _ h1, or_mt]; rfl
theorem Src.apart {s : Src} {k : Nat} {m0 : PH} (h : m0 s.g = none) : Apart m0 (s.M k) := fun g => by
  by_cases e : g = s.g
  · subst e; exact .inl h
  · right; unfold Src.M; rw [upd_ne _ _ e]; rfl
structure SrcOK (u : PH) (s : Src) (ts : List Int) : Prop where
  list : ListP u (.slice s.a s.n s.c) 1 (intsZ ts)
  n : s.n = ts.length
  le : ts.length ≤ 600
  lo : ∀ t ∈ ts, -9223372036854775808 ≤ t
  hi : ∀ t ∈ ts, t ≤ 9223372036854775807
theorem SrcOK.mono {u u' : PH} {s : Src} {ts : List Int} (h : SrcOK u s ts) (hl : PH.le u u') : SrcOK u' s ts := ⟨h.list.mono hl, h.n, h.le, h.lo, h.hi⟩
theorem Src.cell0 (s : Src) (k : Nat) : ElP (s.M k) s.g (0 + 0) (.slice s.a s.n s.c) := fun i y hy => by
  match i, hy with
  | 0, hy => simp [Value.cells] at hy; subst hy; exact ⟨_, _, _, upd_same _ _ _, rfl⟩
theorem Src.cell1 (s : Src) (k : Nat) : ElP (s.M k) s.g (0 + 1) (.int .i64 (k : Int)) := fun i y hy => by
  match i, hy with
  | 0, hy => simp [Value.cells] at hy; subst hy; exact ⟨_, _, _, upd_same _ _ _, rfl⟩
end Go.Proofs.YtikfmknnbjocmaaGreatDoor
end
section
set_option linter.unusedSectionVars false
set_option linter.unusedVariables false
set_option linter.unusedSimpArgs false
namespace Go.Proofs.YtikfmknnbjocmaaGreatDoor
open Go.MapKept
structure KeyT (P : Program) (kt : TypeId) {κ : Type} [DecidableEq κ] (enc : κ → Value) : Prop where
  eq : ∀ a b w, (Op.equal kt (enc a) (enc b)).run P w = .ok (decide (a = b)) w
  now : ∃ d, P.underlying kt = some d ∧ ∀ a b, Instr.sameNow d (enc a) (enc b) = none
  chk : ∀ e a w, (Instr.checkKey e 10000 kt (enc a)).run P w = .ok () w
  bits : ∀ a, Instr.sameBits 10000 (enc a) (enc a) = true
  inj : ∀ a b, enc a = enc b → a = b
def MapO {κ : Type} (enc : κ → Value) (o : Obj) (l : List (κ × Value)) : Prop :=
  ∃ es clock, o = .map es clock ∧ es.toList.map (fun e => (e.key, e.val)) = l.map (fun p => (enc p.1, p.2)) ∧ Stamped es clock
def assoc {κ : Type} [DecidableEq κ] (a : κ) : List (κ × Value) → Option Value
  | [] => none
  | (b, v) :: l => if a = b then some v else assoc a l
def putK {κ : Type} [DecidableEq κ] (a : κ) (x : Value) : List (κ × Value) → List (κ × Value)
  | [] => [(a, x)]
  | (b, v) :: l => if a = b then (b, x) :: l else (b, v) :: putK a x l
def delK {κ : Type} [DecidableEq κ] (a : κ) : List (κ × Value) → List (κ × Value)
  | [] => []
  | (b, v) :: l => if a = b then l else (b, v) :: delK a l
def findK {κ : Type} [DecidableEq κ] (a : κ) : List (κ × Value) → Nat → Option (Nat × Value)
  | [], _ => none
  | (b, v) :: l, i => if a = b then some (i, v) else findK a l (i + 1)
def lookV (z : Value) (r : Option Value) (ok : Bool) : Value := match r with | some v => (if ok then .tuple #[v, .bool true] else v) | none => (if ok then .tuple #[z, .bool false] else z)
theorem nodup_of_map {α β : Type} {f : α → β} {l : List α} (h : (l.map f).Nodup) : l.Nodup := (List.pairwise_map.1 h).imp fun h e => h (by rw [e])
theorem map_erase {α β : Type} (f : α → β) : ∀ (l : List α) (j : Nat), (l.eraseIdx j).map f = (l.map f).eraseIdx j
  | [], _ => by simp
  | _ :: _, 0 => rfl
  | x :: l, j + 1 => by simp [map_erase f l j]
section
variable {κ : Type} [DecidableEq κ] {enc : κ → Value}
theorem findK_val (a : κ) : ∀ (l : List (κ × Value)) (i : Nat), (findK a l i).map (·.2) = assoc a l
  | [], _ => rfl
  | (b, v) :: l, i => by
    unfold findK assoc
    split
    · rfl
    · exact findK_val a l (i + 1)
theorem findK_none {a : κ} : ∀ {l : List (κ × Value)} {i : Nat}, findK a l i = none → a ∉ l.map (·.1)
  | [], _, _ => by simp
  | (b, v) :: l, i, h => by
    unfold findK at h
    split at h
    · cases h
    · rename_i hne
      simp only [List.map_cons, List.mem_cons, not_or]
      exact ⟨hne, findK_none h⟩
theorem findK_some {a : κ} : ∀ {l : List (κ × Value)} {i j : Nat} {v : Value}, findK a l i = some (j, v) → i ≤ j ∧ l[j - i]? = some (a, v) ∧ (∀ x, putK a x l = l.set (j - i) (a, x)) ∧ delK a l = l.eraseIdx (j - i)
  | [], _, _, _, h => by cases h
  | (b, w) :: l, i, j, v, h => by
    unfold findK at h
    split at h
    · rename_i e
      simp only [Option.some.injEq, Prod.mk.injEq] at h
      obtain ⟨rfl, rfl⟩ := h
      subst e
      exact ⟨Nat.le_refl _, by simp, fun x => by simp [putK], by simp [delK]⟩
    · rename_i hne
      obtain ⟨h1, h2, h3, h4⟩ := findK_some h
      have e : j - i = (j - (i + 1)) + 1 := by omega
      refine ⟨by omega, by rw [e, List.getElem?_cons_succ]; exact h2, fun x => ?_, ?_⟩
      · rw [e, List.set_cons_succ, ← h3 x]; simp [putK, hne]
      · rw [e, List.eraseIdx_cons_succ, ← h4]; simp [delK, hne]
theorem putK_new {a : κ} : ∀ {l : List (κ × Value)} (x : Value), a ∉ l.map (·.1) → putK a x l = l ++ [(a, x)]
  | [], _, _ => rfl
  | (b, v) :: l, x, h => by
    simp only [List.map_cons, List.mem_cons, not_or] at h
    unfold putK
    rw [if_neg h.1, putK_new x h.2]; rfl
theorem delK_none {a : κ} : ∀ {l : List (κ × Value)}, a ∉ l.map (·.1) → delK a l = l
  | [], _ => rfl
  | (b, v) :: l, h => by
    simp only [List.map_cons, List.mem_cons, not_or] at h
    unfold delK
    rw [if_neg h.1, delK_none h.2]
theorem assoc_none {a : κ} : ∀ {l : List (κ × Value)}, assoc a l = none ↔ a ∉ l.map (·.1)
  | [] => by simp [assoc]
  | (b, v) :: l => by
    unfold assoc
    split
    · rename_i e; simp [e]
    · rename_i hne; rw [assoc_none]; simp [hne]
variable {P : Program} {kt : TypeId}
theorem run_findAsking (K : KeyT P kt enc) (a : κ) (w : World) : ∀ (es : List MapEntry) (l : List (κ × Value)) (i : Nat), es.map (fun e => (e.key, e.val)) = l.map (fun p => (enc p.1, p.2)) → (Instr.findAsking kt (enc a) es i).run P w = .ok (findK a l i) w
  | [], [], i, _ => by simp [Instr.findAsking, findK]
  | [], _ :: _, _, h => by simp at h
  | _ :: _, [], _, h => by simp at h
  | e :: es, (b, v) :: l, i, h => by
    simp only [List.map_cons, List.cons.injEq, Prod.mk.injEq] at h
    obtain ⟨⟨h1, h2⟩, h3⟩ := h
    unfold Instr.findAsking
    simp only [Sem.run_bind, h1, K.eq, Result.andThen_ok]
    unfold findK
    by_cases e' : a = b
    · simp [e', h2]
    · simp only [decide_eq_false e', Bool.false_eq_true, if_false, if_neg e']
      exact run_findAsking K a w es l (i + 1) h3
theorem run_findKey (K : KeyT P kt enc) (a : κ) (w : World) {es : List MapEntry} {l : List (κ × Value)} (h : es.map (fun e => (e.key, e.val)) = l.map (fun p => (enc p.1, p.2))) : (Instr.findKey kt (enc a) es).run P w = .ok (findK a l 0) w := by
  obtain ⟨d, hd, hn⟩ := K.now
  unfold Instr.findKey
  simp only [Sem.run_bind, run_underlying hd, Result.andThen_ok]
  cases es with
  | nil =>
    cases l with
    | nil => simp [Instr.findNow, findK]
    | cons => simp at h
  | cons e es =>
    have hf : Instr.findNow d (enc a) (e :: es) 0 = none := by
      cases l with
      | nil => simp at h
      | cons p l =>
        simp only [List.map_cons, List.cons.injEq, Prod.mk.injEq] at h
        unfold Instr.findNow
        rw [h.1.1, hn]
    rw [hf]
    exact run_findAsking K a w _ _ _ h
theorem MapO.empty : MapO enc (.map #[] 0) [] := ⟨#[], 0, rfl, by simp, stamped_empty 0⟩
theorem MapO.nodup {o : Obj} {l : List (κ × Value)} (h : MapO enc o l) : (l.map (·.1)).Nodup := by
  obtain ⟨es, clock, rfl, he, hs⟩ := h
  have h1 : es.toList.map (·.key) = l.map (fun p => enc p.1) := by
    have := congrArg (List.map (·.1)) he
    simpa [Function.comp_def] using this
  have h2 := hs.2.2
  rw [h1] at h2
  have : l.map (fun p => enc p.1) = (l.map (·.1)).map enc := by simp [Function.comp_def]
  rw [this] at h2
  exact nodup_of_map h2
theorem run_lookup (K : KeyT P kt enc) {t et : TypeId} (ht : P.underlying t = some (.map kt et)) {z : Value} (hz : ∀ w, (zeroValue et).run P w = .ok z w) {w : World} {g : Nat} {o : Obj} {l : List (κ × Value)} (hg : w.heap[g]? = some o) (ho : MapO enc o l) (a : κ) (ok : Bool) :
    (Instr.lookup t (.map (some g)) (enc a) ok).run P w = .ok (lookV z (assoc a l) ok) w := by
  obtain ⟨es, clock, rfl, he, hs⟩ := ho
  have hf := run_findKey K a w he
  rw [← findK_val a l 0]
  simp only [Instr.lookup, Sem.run_bind, run_underlying ht, Result.andThen_ok, MapKept.run_getObj_map hg, K.chk, Sem.run_pure, hf]
  cases findK a l 0 with
  | none => simp only [lookV, Option.map_none, Sem.run_bind, hz, Result.andThen_ok, Sem.run_pure]
  | some p => simp only [lookV, Option.map_some, Sem.run_bind, Sem.run_pure, Result.andThen_ok]
theorem run_update (K : KeyT P kt enc) {t et : TypeId} (ht : P.underlying t = some (.map kt et)) {w : World} {g : Nat} {o : Obj} {l : List (κ × Value)} (hg : w.heap[g]? = some o) (ho : MapO enc o l) (a : κ) (x : Value) :
    ∃ o', MapO enc o' (putK a x l) ∧ (Instr.mapUpdate t (.map (some g)) (enc a) x).run P w = .ok () { w with heap := w.heap.setIfInBounds g o' } := by
  obtain ⟨es, clock, rfl, he, hs⟩ := ho
  have hf := run_findKey K a w he
  have hlen : es.toList.length = l.length := by simpa using congrArg List.length he
  cases hfk : findK a l 0 with
  | none =>
    rw [hfk] at hf
    have hn := findK_none hfk
    refine ⟨.map (es.push { key := enc a, val := x, born := clock }) (clock + 1), ⟨_, _, rfl, ?_, stamped_push hs (fun e hm hk => ?_)⟩, ?_⟩
    · rw [putK_new x hn]; simp only [Array.toList_push, List.map_append, he, List.map_cons, List.map_nil]
    · obtain ⟨j, hj, rfl⟩ := List.mem_iff_getElem.1 hm
      have := congrArg (fun t => t[j]?) he
      simp only [List.getElem?_map, List.getElem?_eq_getElem hj, Option.map_some] at this
      rw [List.getElem?_eq_getElem (by omega)] at this
      simp only [Option.map_some, Option.some.injEq, Prod.mk.injEq] at this
      rw [this.1] at hk
      exact hn (List.mem_map.2 ⟨_, List.getElem_mem (by omega), K.inj _ _ hk⟩)
    · simp only [Instr.mapUpdate, Sem.run_bind, run_underlying ht, Result.andThen_ok, MapKept.run_getObj_map hg, K.chk, hf]
      exact MapKept.run_setObj_map _ hg
  | some p =>
    obtain ⟨j, v⟩ := p
    rw [hfk] at hf
    obtain ⟨_, h2, h3, _⟩ := findK_some hfk
    rw [Nat.sub_zero] at h2 h3
    have hjl : j < l.length := (List.getElem?_eq_some_iff.1 h2).1
    have hje : j < es.toList.length := by omega
    obtain ⟨e0, he0⟩ : ∃ e0, es.toList[j]? = some e0 := ⟨_, List.getElem?_eq_getElem hje⟩
    have hek : e0.key = enc a := by
      have := congrArg (fun t => t[j]?) he
      simp only [List.getElem?_map, he0, Option.map_some, h2, Option.some.injEq, Prod.mk.injEq] at this
      exact this.1
    have hej : es[j]? = some e0 := by rw [← Array.getElem?_toList]; exact he0
    refine ⟨.map (es.modify j fun e => { e with key := enc a, val := x }) clock, ⟨_, _, rfl, ?_, stamped_modify hs j _ (fun _ _ => rfl) (fun e _ h => ?_)⟩, ?_⟩
    · rw [h3 x, List.map_set]
      apply List.ext_getElem?
      intro i
      simp only [List.getElem?_map, Array.getElem?_toList, Array.getElem?_modify, List.getElem?_set]
      have hi := congrArg (fun t => t[i]?) he
      simp only [List.getElem?_map, Array.getElem?_toList] at hi
      by_cases e : j = i
      · subst e
        rw [if_pos rfl, if_pos rfl, hej, if_pos (by simpa using hjl)]; rfl
      · rw [if_neg e, if_neg e]; exact hi
    · rw [hej] at h; cases h; exact hek.symm
    · have hkey : ((es[j]?).map (·.key)).getD (enc a) = enc a := by rw [hej]; simp [hek]
      simp only [Instr.mapUpdate, Sem.run_bind, run_underlying ht, Result.andThen_ok, MapKept.run_getObj_map hg, K.chk, hf, hkey]
      have hst : (Instr.keyThatStays (enc a) (enc a)).run P w = .ok (enc a) w := by unfold Instr.keyThatStays; rw [if_pos (K.bits a)]; rfl
      rw [hst]
      simp only [Result.andThen_ok]
      exact MapKept.run_setObj_map _ hg
theorem run_delete (K : KeyT P kt enc) {t et rt : TypeId} {ts : Array TypeId} (hts : ts[0]? = some t) (ht : P.underlying t = some (.map kt et)) {w : World} {g : Nat} {o : Obj} {l : List (κ × Value)} (hg : w.heap[g]? = some o) (ho : MapO enc o l) (a : κ) :
    ∃ o', MapO enc o' (delK a l) ∧ (Builtin.delete_ ts rt #[.map (some g), enc a]).run P w = .ok (.tuple #[]) { w with heap := w.heap.setIfInBounds g o' } := by
  obtain ⟨es, clock, rfl, he, hs⟩ := ho
  have hf := run_findKey K a w he
  have hlen : es.toList.length = l.length := by simpa using congrArg List.length he
  cases hfk : findK a l 0 with
  | none =>
    rw [hfk] at hf
    refine ⟨.map es clock, ⟨es, clock, rfl, by rw [delK_none (findK_none hfk)]; exact he, hs⟩, ?_⟩
    simp [Builtin.delete_, hts, run_underlying ht, MapKept.run_getObj_map hg, K.chk, hf, MapKept.run_setObj_map _ hg]
  | some p =>
    obtain ⟨j, v⟩ := p
    rw [hfk] at hf
    obtain ⟨_, h2, _, h4⟩ := findK_some hfk
    rw [Nat.sub_zero] at h2 h4
    have hjl : j < l.length := (List.getElem?_eq_some_iff.1 h2).1
    refine ⟨.map (es.eraseIdxIfInBounds j) clock, ⟨_, _, rfl, ?_, stamped_erase hs j⟩, ?_⟩
    · have : (es.eraseIdxIfInBounds j).toList = es.toList.eraseIdx j := by
        unfold Array.eraseIdxIfInBounds
        rw [dif_pos (by simpa using (by omega : j < es.toList.length))]
        simp
      rw [this, h4, map_erase, map_erase, he]
    · simp [Builtin.delete_, hts, run_underlying ht, MapKept.run_getObj_map hg, K.chk, hf, MapKept.run_setObj_map _ hg]
end
end Go.Proofs.YtikfmknnbjocmaaGreatDoor
end
section
set_option linter.unusedSectionVars false
set_option linter.unusedVariables false
set_option linter.unusedSimpArgs false
namespace Go.Proofs.YtikfmknnbjocmaaGreatDoor
variable [Flag]
open Go.MapKept
inductive MStop where
  | other
  | mk
  | look (t : Option TypeDesc) (x k : Value) (ok : Bool)
  | put (t : Option TypeDesc) (x k v : Value)
  | range (t : Option TypeDesc) (x : Value)
  | next (it : Value)
  | entry (it : Value)
def mview (P : Program) (env : Operand → Value) : Op → MStop
  | .makeMap _ none => .mk
  | .lookup t x i ok => .look (P.underlying t) (env x) (env i) ok
  | .mapUpdate t x k v => .put (P.underlying t) (env x) (env k) (env v)
  | .insert t x k v => .put (P.underlying t) (env x) (env k) (env v)
  | .range t x => .range (P.underlying t) (env x)
  | .next it false => .next (env it)
  | .entry it => .entry (env it)
  | _ => .other
def mstop (P : Program) (st : List KI × S) : MStop :=
  match st.1 with
  | .reg _ ops _ (i :: _) :: _ => match ops[i]? with
    | some o => match dstOK st.2 o && (allV st.2 o.op && notSel o.op) with
      | true => match gv st.2 ops o with
        | some true => mview P (envOf st.2) o.op
        | _ => .other
      | false => .other
    | none => .other
  | _ => .other
def notCells : Obj → Bool
  | .cells .. => false
  | _ => true
section good
variable {u m : PH} {w : World}
def setW (w : World) (g : Nat) (o : Obj) : World := { w with heap := w.heap.setIfInBounds g o }
theorem setW_same {g : Nat} {o o' : Obj} (h : w.heap[g]? = some o) : (setW w g o').heap[g]? = some o' := by
  show (w.heap.setIfInBounds g o')[g]? = _
  rw [Array.getElem?_setIfInBounds_self]; simp [lt_of_at h]
theorem setW_ne {g k : Nat} {o' : Obj} (h : k ≠ g) : (setW w g o').heap[k]? = w.heap[k]? := by
  show (w.heap.setIfInBounds g o')[k]? = _
  rw [Array.getElem?_setIfInBounds_ne (fun e => h e.symm)]
theorem setW_size (g : Nat) (o' : Obj) : (setW w g o').heap.size = w.heap.size := by show (w.heap.setIfInBounds g o').size = _; simp
theorem Good.setO (h : Good u m w) {g : Nat} {o o' : Obj} (hg : m g = some o) (hn : notCells o' = true) : Good u (m.upd g o') (setW w g o') ∧ Grown u m w u (m.upd g o') (setW w g o') := by
  have hb := h.pm g _ hg
  have hug : u g = none := by rcases h.ap g with e | e
                              · exact e
                              · rw [hg] at e; cases e
  refine ⟨⟨fun k o hk => ?_, fun k o hk => ?_, fun k => ?_, fun k cs1 t1 fr1 j z hk hj => ?_⟩, ⟨by rw [setW_size]; exact Nat.le_refl _, fun k hk hm => setW_ne (fun e => by rw [e, hg] at hm; cases hm), fun _ _ => rfl, fun k hk hm => by rw [upd_ne _ _ (fun e => by rw [e, hg] at hm; cases hm)]; exact hm, ⟨rfl, rfl⟩, fun _ => ⟨rfl, Nat.le_refl _⟩⟩⟩
  · rw [setW_ne (fun e => by rw [e, hug] at hk; cases hk)]; exact h.pu k o hk
  · by_cases e : k = g
    · subst e; rw [upd_same] at hk; rw [setW_same hb]; exact hk
    · rw [upd_ne _ _ e] at hk; rw [setW_ne e]; exact h.pm k o hk
  · by_cases e : k = g
    · subst e; exact .inl hug
    · rw [upd_ne _ _ e]; exact h.ap k
  · by_cases e : k = g
    · subst e
      rw [setW_same hb] at hk
      simp only [Option.some.injEq] at hk
      subst hk; cases hn
    · rw [setW_ne e] at hk; exact h.cl k cs1 t1 fr1 j z hk hj
theorem Good.newO (h : Good u m w) {o : Obj} (hn : notCells o = true) : Good u (m.upd w.heap.size o) (w.alloc o) ∧ Grown u m w u (m.upd w.heap.size o) (w.alloc o) ∧ m w.heap.size = none ∧ u w.heap.size = none := by
  have hm : m w.heap.size = none := h.pm.none (Nat.le_refl _)
  have hu : u w.heap.size = none := h.pu.none (Nat.le_refl _)
  refine ⟨⟨fun g o' hg => ?_, fun g o' hg => ?_, fun g => ?_, fun g cs t fr j z hg hj => ?_⟩, ⟨by rw [size_alloc']; omega, fun g hg _ => heap_alloc_lt _ _ hg, fun _ _ => rfl, fun g hg hm => by rw [upd_ne _ _ (by omega)]; exact hm, ⟨rfl, rfl⟩, fun _ => ⟨rfl, Nat.le_refl _⟩⟩, hm, hu⟩
  · rw [heap_alloc_lt _ _ (h.pu.lt hg)]; exact h.pu g o' hg
  · by_cases e : g = w.heap.size
    · subst e; rw [upd_same] at hg; rw [heap_alloc_eq]; exact hg
    · rw [upd_ne _ _ e] at hg; rw [heap_alloc_lt _ _ (h.pm.lt hg)]; exact h.pm g o' hg
  · by_cases e : g = w.heap.size
    · subst e; exact .inl hu
    · rw [upd_ne _ _ e]; exact h.ap g
  · by_cases e : g = w.heap.size
    · subst e
      rw [heap_alloc_eq] at hg
      simp only [Option.some.injEq] at hg
      subst hg; cases hn
    · have hlt := lt_of_at hg
      rw [size_alloc'] at hlt
      rw [heap_alloc_lt _ _ (by omega)] at hg
      exact h.cl g cs t fr j z hg hj
theorem Good.drewG (h : Good u m w) : Grown u m w u m w.drew := ⟨Nat.le_refl _, fun _ _ _ => rfl, fun _ _ => rfl, fun _ _ h => h, ⟨rfl, rfl⟩, fun _ => ⟨rfl, Nat.le_succ _⟩⟩
end good
section rules
variable {P : Program} [Mixed P] {fn : Func} {Post : Spec} {st : List KI × S} {u m : PH}
theorem mstop_spec {V : MStop} (h : mstop P st = V) (hV : V ≠ .other) : ∃ id ops dr i l k s o, st = (.reg id ops dr (i :: l) :: k, s) ∧ ops[i]? = some o ∧ gv s ops o = some true ∧ dstOK s o = true ∧ allV s o.op = true ∧ notSel o.op = true ∧ mview P (envOf s) o.op = V ∧
    ∀ v, nx st v = (.reg id ops dr l :: k, s.put o.dst (.v v)) := by
  obtain ⟨ks, s⟩ := st
  unfold mstop at h
  simp only at h
  split at h
  · rename_i id ops dr i l k
    split at h
    · rename_i o ho
      split at h
      · rename_i hb
        simp only [Bool.and_eq_true] at hb
        split at h
        · rename_i hg
          exact ⟨id, ops, dr, i, l, k, s, o, rfl, ho, hg, hb.1, hb.2.1, hb.2.2, h, fun v => by simp [nx, ho]⟩
        · exact absurd h.symm hV
      · exact absurd h.symm hV
    · exact absurd h.symm hV
  · exact absurd h.symm hV
def isLook : MStop → Bool
  | .look .. => true
  | _ => false
theorem mview_free {env : Operand → Value} {o : Op} {V : MStop} (h : mview P env o = V) (hV : V ≠ .other) (hl : isLook V = false) : freeOp o = false := by
  unfold mview at h
  split at h <;> first | rfl | exact absurd h.symm hV | (rw [← h] at hl; cases hl)
theorem G.bigX {V : MStop} {K : Value → PH → PH → Prop} (h : mstop P (adv P st) = V) (hV : V ≠ .other ∧ isLook V = false) (hk : (∀ v u' m', K v u' m' → PH.le m m') ∨ noDr (adv P st) = true)
    (hr : ∀ env (o : Oper), mview P env o.op = V → ∀ w, Good u m w → OpDoes P env o w fun v w' => ∃ u' m', Good u' m' w' ∧ Grown u m w u' m' w' ∧ K v u' m')
    (k : ∀ v u' m', PH.le u u' → K v u' m' → G P fn Post (nx (adv P st) v) u' m') : G P fn Post st u m := by
  refine G.stp ?_
  obtain ⟨id, ops, dr, i, l, kk, s, o, e, ho, hg, hd, hv, hs, hview, hnx⟩ := mstop_spec h hV.1
  rw [e] at hk ⊢
  refine ⟨?_⟩
  refine Ob.big (K := K) ho hg hd hv hs (mview_free hview hV.1 hV.2) (fun v u' m' hK => ?_) (fun w hgd => hr _ o hview w hgd) (fun v u' m' h1 h2 => ?_)
  · rcases hk with hk | hk
    · exact .inl (hk v u' m' hK)
    · exact .inr (noDr_late ho hk)
  · have := (k v u' m' h1 h2).out
    rw [hnx] at this
    exact this
theorem does_unit {env : Operand → Value} {o : Oper} {w w' : World} {K : Value → World → Prop} (h : (execOp env o).run P w = .ok .skip w') (hk : K undef w') : OpDoes P env o w K := by
  unfold OpDoes; rw [h]; exact hk
theorem G.mapMk (h : mstop P (adv P st) = .mk) (k : ∀ g, m g = none → u g = none → G P fn Post (nx (adv P st) (.map (some g))) u (m.upd g (.map #[] 0))) : G P fn Post st u m := by
  refine G.bigX (K := fun v u' m' => u' = u ∧ PH.le m m' ∧ ∃ g, m g = none ∧ u g = none ∧ v = .map (some g) ∧ m' = m.upd g (.map #[] 0)) h (by simp [isLook]) (.inl fun v u' m' hk => hk.2.1) (fun env o hview w hgd => ?_) (fun v' u' m' hle hk => ?_)
  · obtain ⟨dst, opp, type, pos, after, guard⟩ := o
    simp only at hview
    unfold mview at hview
    split at hview <;> try (cases hview; done)
    obtain ⟨g1, g2, g3, g4⟩ := hgd.newO (o := .map #[] 0) rfl
    refine does_value (w' := w.alloc (.map #[] 0)) (v := .map (some w.heap.size)) ?_ ⟨u, _, g1, g2, rfl, le_upd _ g3, w.heap.size, g3, g4, rfl, rfl⟩
    simp [execOp, Instr.makeMap, World.alloc_eq]
  · obtain ⟨rfl, _, g, h1, h2, rfl, rfl⟩ := hk
    exact k g h1 h2
def zeroB (P : Program) (t : TypeId) : Option Value := match P.info? t with | some i => i.zero | none => none
theorem run_zeroB {t : TypeId} {z : Value} (h : zeroB P t = some z) (w : World) : (zeroValue t).run P w = .ok z w := by
  unfold zeroB at h
  split at h
  · rename_i i hi
    simp [zeroValue, typeInfo, hi, h]
  · cases h
variable {κ : Type} [DecidableEq κ] {enc : κ → Value} {kt et : TypeId}
theorem G.mapGet (K : KeyT P kt enc) (z : Value) (g : Nat) (o : Obj) (l : List (κ × Value)) (a : κ) (ok : Bool) (h : mstop P (adv P st) = .look (some (.map kt et)) (.map (some g)) (enc a) ok) (hz : zeroB P et = some z) (hg : u g = some o ∨ m g = some o) (ho : MapO enc o l)
    (k : G P fn Post (nx (adv P st) (lookV z (assoc a l) ok)) u m) : G P fn Post st u m := by
  refine G.stp ?_
  obtain ⟨id, ops, dr, i, l', kk, s, o', e, ho', hgv, hd, hv, hs, hview, hnx⟩ := mstop_spec h (by simp)
  have k := k.out
  rw [hnx] at k
  rw [e]
  refine ⟨Ob.ask ho' hgv hd hv hs (fun w hp => ?_) k⟩
  obtain ⟨dst, opp, type, pos, after, guard⟩ := o'
  simp only at hview hp
  unfold mview at hview
  split at hview <;> try (cases hview; done)
  rename_i t x i ok'
  simp only [MStop.look.injEq] at hview
  obtain ⟨h1, h2, h3, rfl⟩ := hview
  obtain ⟨pu, pm⟩ := hp rfl
  have hw : w.heap[g]? = some o := hg.elim (pu g o) (pm g o)
  have hr := run_lookup K h1 (fun w => run_zeroB hz w) hw ho a ok'
  simp only [execOp, h2, h3]
  simp [hr]
theorem G.mapHas (K : KeyT P kt enc) (z : Value) (g : Nat) (o : Obj) (l : List (κ × Value)) (a : κ) (x : Value) (h : mstop P (adv P st) = .look (some (.map kt et)) (.map (some g)) (enc a) true) (hz : zeroB P et = some z) (hg : u g = some o ∨ m g = some o) (ho : MapO enc o l) (hx : assoc a l = some x)
    (k : G P fn Post (nx (adv P st) (.tuple #[x, .bool true])) u m) : G P fn Post st u m :=
  G.mapGet K z g o l a true h hz hg ho (by rw [hx]; exact k)
theorem G.mapNot (K : KeyT P kt enc) (z : Value) (g : Nat) (o : Obj) (l : List (κ × Value)) (a : κ) (h : mstop P (adv P st) = .look (some (.map kt et)) (.map (some g)) (enc a) true) (hz : zeroB P et = some z) (hg : u g = some o ∨ m g = some o) (ho : MapO enc o l) (hx : assoc a l = none)
    (k : G P fn Post (nx (adv P st) (.tuple #[z, .bool false])) u m) : G P fn Post st u m :=
  G.mapGet K z g o l a true h hz hg ho (by rw [hx]; exact k)
theorem G.mapIs (K : KeyT P kt enc) (z : Value) (g : Nat) (o : Obj) (l : List (κ × Value)) (a : κ) (x : Value) (h : mstop P (adv P st) = .look (some (.map kt et)) (.map (some g)) (enc a) false) (hz : zeroB P et = some z) (hg : u g = some o ∨ m g = some o) (ho : MapO enc o l) (hx : assoc a l = some x)
    (k : G P fn Post (nx (adv P st) x) u m) : G P fn Post st u m :=
  G.mapGet K z g o l a false h hz hg ho (by rw [hx]; exact k)
theorem G.mapPut (K : KeyT P kt enc) (g : Nat) (o : Obj) (l : List (κ × Value)) (a : κ) (x : Value) (h : mstop P (adv P st) = .put (some (.map kt et)) (.map (some g)) (enc a) x) (hdr : noDr (adv P st) = true) (hg : m g = some o) (ho : MapO enc o l)
    (k : ∀ o', MapO enc o' (putK a x l) → G P fn Post (nx (adv P st) undef) u (m.upd g o')) : G P fn Post st u m := by
  refine G.bigX (K := fun v u' m' => u' = u ∧ v = undef ∧ ∃ o', MapO enc o' (putK a x l) ∧ m' = m.upd g o') h (by simp [isLook]) (.inr hdr) (fun env o' hview w hgd => ?_) (fun v' u' m' hle hk => ?_)
  · obtain ⟨dst, opp, type, pos, after, guard⟩ := o'
    simp only at hview
    have key : ∀ t X A Y, P.underlying t = some (.map kt et) → env X = .map (some g) → env A = enc a → env Y = x → (opp = .mapUpdate t X A Y ∨ opp = .insert t X A Y) → OpDoes P env ⟨dst, opp, type, pos, after, guard⟩ w fun v w' => ∃ u' m', Good u' m' w' ∧ Grown u m w u' m' w' ∧ u' = u ∧ v = undef ∧ ∃ o', MapO enc o' (putK a x l) ∧ m' = m.upd g o' := by
      intro t X A Y h1 h2 h3 h4 he
      have hw : w.heap[g]? = some o := hgd.pm g o hg
      obtain ⟨o', ho', hr⟩ := run_update K h1 hw ho a x
      have hn : notCells o' = true := by obtain ⟨es, c, rfl, _⟩ := ho'; rfl
      obtain ⟨g1, g2⟩ := hgd.setO hg hn
      refine does_unit (w' := setW w g o') ?_ ⟨u, _, g1, g2, rfl, rfl, o', ho', rfl⟩
      rcases he with rfl | rfl
      · simp only [execOp, h2, h3, h4]
        simp [hr, setW]
      · simp only [execOp, h2, h3, h4]
        simp [hr, setW]
    unfold mview at hview
    split at hview <;> try (cases hview; done)
    · simp only [MStop.put.injEq] at hview
      obtain ⟨h1, h2, h3, h4⟩ := hview
      exact key _ _ _ _ h1 h2 h3 h4 (.inl rfl)
    · simp only [MStop.put.injEq] at hview
      obtain ⟨h1, h2, h3, h4⟩ := hview
      exact key _ _ _ _ h1 h2 h3 h4 (.inr rfl)
  · obtain ⟨rfl, rfl, o', h1, rfl⟩ := hk
    exact k o' h1
theorem G.mapDel (K : KeyT P kt enc) (t : TypeId) (g : Nat) (o : Obj) (l : List (κ × Value)) (a : κ) (t2 : TypeId) (h : stopV P (adv P st) = .blt .delete [t, t2] [.map (some g), enc a]) (ht : P.underlying t = some (.map kt et)) (hdr : noDr (adv P st) = true) (hg : m g = some o) (ho : MapO enc o l)
    (k : ∀ o', MapO enc o' (delK a l) → G P fn Post (nx (adv P st) (.tuple #[])) u (m.upd g o')) : G P fn Post st u m := by
  refine G.bigN (K := fun v u' m' => u' = u ∧ v = .tuple #[] ∧ ∃ o', MapO enc o' (delK a l) ∧ m' = m.upd g o') h (by simp) hdr (fun env op hv => by obtain ⟨c, rfl, h1, _⟩ := view_blt hv; obtain ⟨callee, args, ats⟩ := c; simp only at h1; subst h1; rfl) (fun env o' hview w hgd => ?_) (fun v' u' m' hle hk => ?_)
  · obtain ⟨dst, opp, type, pos, after, guard⟩ := o'
    simp only at hview
    obtain ⟨c, rfl, h1, h2, h3⟩ := view_blt hview
    obtain ⟨callee, args, ats⟩ := c
    simp only at h1 h2 h3
    subst h1 h2
    have hw : w.heap[g]? = some o := hgd.pm g o hg
    obtain ⟨o', ho', hr⟩ := run_delete (rt := type) K (ts := #[t, t2]) rfl ht hw ho a
    have hn : notCells o' = true := by obtain ⟨es, c, rfl, _⟩ := ho'; rfl
    obtain ⟨g1, g2⟩ := hgd.setO hg hn
    refine does_value (w' := setW w g o') (v := .tuple #[]) ?_ ⟨u, _, g1, g2, rfl, rfl, o', ho', rfl⟩
    simp only [execOp, resolve, invoke, builtin, h3]
    simp [hr, setW]
  · obtain ⟨rfl, rfl, o', h1, rfl⟩ := hk
    exact k o' h1
def seenOf (D : List MapEntry) : Array Nat := (D.map (·.born)).toArray
structure ItOK (es : Array MapEntry) (D : List MapEntry) : Prop where
  sub : ∀ e ∈ D, e ∈ es.toList
  nod : (D.map (·.born)).Nodup
theorem ItOK.nil (es : Array MapEntry) : ItOK es [] := ⟨by simp, by simp⟩
theorem G.mapRange (g : Nat) (es : Array MapEntry) (clock : Nat) (kt et : TypeId) (h : mstop P (adv P st) = .range (some (.map kt et)) (.map (some g))) (hg : u g = some (.map es clock) ∨ m g = some (.map es clock))
    (k : ∀ i, m i = none → u i = none → G P fn Post (nx (adv P st) (.pointer (some ⟨i, 0, none⟩))) u (m.upd i (.mapIter (some g) clock (seenOf []) clock))) : G P fn Post st u m := by
  refine G.bigX (K := fun v u' m' => u' = u ∧ PH.le m m' ∧ ∃ i, m i = none ∧ u i = none ∧ v = .pointer (some ⟨i, 0, none⟩) ∧ m' = m.upd i (.mapIter (some g) clock (seenOf []) clock)) h (by simp [isLook]) (.inl fun v u' m' hk => hk.2.1) (fun env o hview w hgd => ?_) (fun v' u' m' hle hk => ?_)
  · obtain ⟨dst, opp, type, pos, after, guard⟩ := o
    simp only at hview
    unfold mview at hview
    split at hview <;> try (cases hview; done)
    simp only [MStop.range.injEq] at hview
    obtain ⟨h1, h2⟩ := hview
    have hw : w.heap[g]? = some (.map es clock) := hg.elim (hgd.pu g _) (hgd.pm g _)
    obtain ⟨g1, g2, g3, g4⟩ := hgd.newO (o := .mapIter (some g) clock (seenOf []) clock) rfl
    have hr := run_range_map (P := P) w _ kt et g es clock h1 hw
    refine does_value (w' := w.alloc (.mapIter (some g) clock (seenOf []) clock)) (v := .pointer (some ⟨w.heap.size, 0, none⟩)) ?_ ⟨u, _, g1, g2, rfl, le_upd _ g3, w.heap.size, g3, g4, rfl, rfl⟩
    simp only [execOp, h2]
    simp [hr, seenOf]
  · obtain ⟨rfl, _, i, h1, h2, rfl, rfl⟩ := hk
    exact k i h1 h2
theorem run_chooseN (n : Nat) (hn : 0 < n) (w : World) : ∃ j w1, j < n ∧ (w1 = w ∨ w1 = w.drew) ∧ (choose (.mapNext n)).run P w = .ok j w1 := by
  by_cases hf : n ≤ 1
  · exact ⟨0, w, hn, .inl rfl, by simp [choose, Sem.run, Question.forced, hf]⟩
  · exact ⟨_, w.drew, Nat.mod_lt _ hn, .inr rfl, by
      simp only [choose, Sem.run, Question.forced, decide_eq_true_eq, hf, if_false, Question.cut]
      rfl⟩
theorem run_nextG {w : World} {it g : Nat} {es : Array MapEntry} {clock : Nat} {D : List MapEntry} (ty : TypeId) (hi : w.heap[it]? = some (.mapIter (some g) clock (seenOf D) clock)) (hg : w.heap[g]? = some (.map es clock)) (hs : Stamped es clock) :
    ((leftOf es (seenOf D)).size = 0 ∧ (Instr.next (.pointer (some ⟨it, 0, none⟩)) false ty).run P w = .ok (.tuple #[.bool false]) w) ∨
    ∃ e ∈ (leftOf es (seenOf D)).toList, ∃ w1, (w1 = w ∨ w1 = w.drew) ∧ (Instr.next (.pointer (some ⟨it, 0, none⟩)) false ty).run P w = .ok (.tuple #[.bool true, e.key, e.val]) (setW w1 it (.mapIter (some g) clock (seenOf (D ++ [e])) clock)) := by
  have e0 : (seenOf D).push = fun b => (seenOf D).push b := rfl
  have hpush : ∀ e : MapEntry, (seenOf D).push e.born = seenOf (D ++ [e]) := fun e => by simp [seenOf]
  simp only [Instr.next, getObj, Sem.run_bind, Sem.run, hi, hg, Result.andThen, next_test_false (seenOf D) es clock clock hs.1 (Nat.le_refl _), Bool.false_eq_true, if_false]
  have hmem : ∀ x ∈ (leftOf es (seenOf D)).toList, x.born < clock := fun x hx => hs.1 x (mem_left hx).1
  have hL : es.filter (fun e => !(seenOf D).contains e.born) = leftOf es (seenOf D) := rfl
  simp only [hL]
  generalize leftOf es (seenOf D) = L at hmem ⊢
  have e1 : L.filter (fun x => decide (x.born < clock)) = L := Array.filter_eq_self.2 (fun x hx => by simpa using hmem x (by simpa using hx))
  have e2 : L.filter (fun x => decide (x.born ≥ clock)) = #[] := by
    rw [Array.filter_eq_empty_iff]
    intro x hx
    have := hmem x (by simpa using hx)
    simp
    omega
  simp only [e1, e2, Array.append_empty]
  by_cases h0 : L.size = 0
  · left
    have : L = #[] := Array.eq_empty_of_size_eq_zero h0
    subst this
    refine ⟨rfl, ?_⟩
    simp [choose, Sem.run, Question.forced]
  · right
    have hne : L.isEmpty = false := by simp [Array.isEmpty, h0]
    simp only [hne, Bool.false_eq_true, if_false, Array.empty_append, Array.size_map]
    obtain ⟨j, w1, hj, hal, hrun⟩ := run_chooseN (P := P) L.size (by omega) w
    refine ⟨L[j], by simp, w1, hal, ?_⟩
    have hi1 : w1.heap[it]? = some (.mapIter (some g) clock (seenOf D) clock) := by rcases hal with rfl | rfl <;> exact hi
    have hset : ∀ o' : Obj, (setObj it o').run P w1 = .ok () (setW w1 it o') := fun o' => by
      simp only [setObj, Sem.run, hi1, setW]
    simp only [hrun, Array.getElem?_map, Array.getElem?_eq_getElem hj, Option.map_some, Sem.run_bind, hset, Result.andThen, hpush]
    rfl
theorem seen_contains (D : List MapEntry) (b : Nat) : (seenOf D).contains b = true ↔ b ∈ D.map (·.born) := by
  unfold seenOf; simp
theorem done_perm {es : Array MapEntry} {clock : Nat} {D : List MapEntry} (hs : Stamped es clock) (hD : ItOK es D) (h : (leftOf es (seenOf D)).size = 0) : D.Perm es.toList := by
  have hnd : es.toList.Nodup := nodup_of_map hs.2.1
  have hdd : D.Nodup := nodup_of_map hD.nod
  refine (List.perm_ext_iff_of_nodup hdd hnd).2 fun e => ⟨hD.sub e, fun he => ?_⟩
  have hem : leftOf es (seenOf D) = #[] := Array.eq_empty_of_size_eq_zero h
  have hc : (seenOf D).contains e.born = true := by
    cases hc : (seenOf D).contains e.born with
    | true => rfl
    | false =>
      have : e ∈ leftOf es (seenOf D) := Array.mem_filter.2 ⟨by simpa using he, by rw [hc]; rfl⟩
      rw [hem] at this; simp at this
  obtain ⟨d, hd, hb⟩ := List.mem_map.1 ((seen_contains D _).1 hc)
  have h1 := find_born e es.toList hs.2.1 he
  have h2 := find_born d es.toList hs.2.1 (hD.sub d hd)
  rw [hb] at h2
  rw [h1] at h2
  have h3 := Option.some.inj h2
  rw [h3]; exact hd
theorem ItOK.snoc {es : Array MapEntry} {D : List MapEntry} (h : ItOK es D) {e : MapEntry} (he : e ∈ (leftOf es (seenOf D)).toList) : ItOK es (D ++ [e]) := by
  obtain ⟨h1, h2⟩ := mem_left he
  refine ⟨fun x hx => ?_, ?_⟩
  · simp only [List.mem_append, List.mem_singleton] at hx
    rcases hx with hx | rfl
    · exact h.sub x hx
    · exact h1
  · simp only [List.map_append, List.map_cons, List.map_nil]
    refine List.nodup_append.2 ⟨h.nod, by simp, fun a ha b hb => ?_⟩
    simp only [List.mem_singleton] at hb
    subst hb
    rintro rfl
    rw [(seen_contains D _).2 ha] at h2; cases h2
theorem G.mapNext (it g : Nat) (es : Array MapEntry) (clock : Nat) (D : List MapEntry) (h : mstop P (adv P st) = .next (.pointer (some ⟨it, 0, none⟩))) (hdr : noDr (adv P st) = true) (hi : m it = some (.mapIter (some g) clock (seenOf D) clock)) (hg : u g = some (.map es clock) ∨ m g = some (.map es clock)) (hs : Stamped es clock) (hD : ItOK es D)
    (k0 : D.Perm es.toList → G P fn Post (nx (adv P st) (.tuple #[.bool false])) u m)
    (k1 : ∀ e, e ∈ es.toList → ItOK es (D ++ [e]) → G P fn Post (nx (adv P st) (.tuple #[.bool true, e.key, e.val])) u (m.upd it (.mapIter (some g) clock (seenOf (D ++ [e])) clock))) : G P fn Post st u m := by
  refine G.bigX (K := fun v u' m' => u' = u ∧ ((m' = m ∧ v = .tuple #[.bool false] ∧ D.Perm es.toList) ∨ ∃ e, e ∈ es.toList ∧ ItOK es (D ++ [e]) ∧ v = .tuple #[.bool true, e.key, e.val] ∧ m' = m.upd it (.mapIter (some g) clock (seenOf (D ++ [e])) clock))) h (by simp [isLook]) (.inr hdr) (fun env o hview w hgd => ?_) (fun v' u' m' hle hk => ?_)
  · obtain ⟨dst, opp, type, pos, after, guard⟩ := o
    simp only at hview
    unfold mview at hview
    split at hview <;> try (cases hview; done)
    simp only [MStop.next.injEq] at hview
    have hw : w.heap[g]? = some (.map es clock) := hg.elim (hgd.pu g _) (hgd.pm g _)
    have hwi := hgd.pm it _ hi
    rcases run_nextG (P := P) type hwi hw hs with ⟨h0, hr⟩ | ⟨e, he, w1, hw1, hr⟩
    · refine does_value (w' := w) (v := .tuple #[.bool false]) ?_ ⟨u, m, hgd, Grown.refl _ _ _, rfl, .inl ⟨rfl, rfl, done_perm hs hD h0⟩⟩
      simp only [execOp, hview]
      simp [hr]
    · have hgd1 : Good u m w1 := by rcases hw1 with rfl | rfl; exact hgd; exact hgd.drew'
      have hgr1 : Grown u m w u m w1 := by rcases hw1 with rfl | rfl; exact Grown.refl _ _ _; exact hgd.drewG
      obtain ⟨g1, g2⟩ := hgd1.setO (o' := .mapIter (some g) clock (seenOf (D ++ [e])) clock) hi rfl
      refine does_value (w' := setW w1 it (.mapIter (some g) clock (seenOf (D ++ [e])) clock)) (v := .tuple #[.bool true, e.key, e.val]) ?_ ⟨u, _, g1, hgr1.trans g2, rfl, .inr ⟨e, (mem_left he).1, hD.snoc he, rfl, rfl⟩⟩
      simp only [execOp, hview]
      simp [hr]
  · obtain ⟨rfl, ⟨rfl, rfl, hp⟩ | ⟨e, h1, h2, rfl, rfl⟩⟩ := hk
    · exact k0 hp
    · exact k1 e h1 h2
theorem G.mapEntry (it g : Nat) (es : Array MapEntry) (clock : Nat) (D : List MapEntry) (e : MapEntry) (h : mstop P (adv P st) = .entry (.pointer (some ⟨it, 0, none⟩))) (hi : m it = some (.mapIter (some g) clock (seenOf (D ++ [e])) clock)) (hg : u g = some (.map es clock) ∨ m g = some (.map es clock)) (hs : Stamped es clock) (he : e ∈ es.toList)
    (k : G P fn Post (nx (adv P st) (.tuple #[e.key, e.val])) u m) : G P fn Post st u m := by
  refine G.bigX (K := fun v u' m' => u' = u ∧ m' = m ∧ v = .tuple #[e.key, e.val]) h (by simp [isLook]) (.inl fun v u' m' hk => by rw [hk.2.1]; exact PH.le_refl _) (fun env o hview w hgd => ?_) (fun v' u' m' hle hk => ?_)
  · obtain ⟨dst, opp, type, pos, after, guard⟩ := o
    simp only at hview
    unfold mview at hview
    split at hview <;> try (cases hview; done)
    simp only [MStop.entry.injEq] at hview
    have hw : w.heap[g]? = some (.map es clock) := hg.elim (hgd.pu g _) (hgd.pm g _)
    have hwi := hgd.pm it _ hi
    have hb : (seenOf (D ++ [e])).back? = some e.born := by simp [seenOf]
    have hf : es.find? (fun x => x.born == e.born) = some e := by rw [← Array.find?_toList]; exact find_born e es.toList hs.2.1 he
    have hr : (Instr.entry (.pointer (some ⟨it, 0, none⟩))).run P w = .ok (.tuple #[e.key, e.val]) w := by
      simp only [Instr.entry, getObj, Sem.run_bind, Sem.run, hwi, hw, Result.andThen, hb, bne_self_eq_false, Bool.false_eq_true, if_false, hf]
      rfl
    refine does_value (w' := w) ?_ ⟨u, m, hgd, Grown.refl _ _ _, rfl, rfl, rfl⟩
    simp only [execOp, hview]
    simp [hr]
  · obtain ⟨rfl, rfl, rfl⟩ := hk
    exact k
end rules
end Go.Proofs.YtikfmknnbjocmaaGreatDoor
end
