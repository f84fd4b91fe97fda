/- Joined out of parts of one proof by a program: contracts of the functions that the statement reaches, and the plain facts behind them. -/
import Derived.Test.YtpdboaedoimahaaGreatDoorKB03
import Derived.Outline
import Derived.Deep.RegionHeld3
import Derived.Laws.AppendOwn
import Derived.Laws.MakeOwn
import Derived.IntWalk
set_option linter.unusedVariables false
set_option linter.unusedSimpArgs false
set_option linter.unusedSectionVars false
section
namespace Go.Proofs.YtpdboaedoimahaaGreatDoor
open Go.RowKit
def NewRel (w : World) (s : Nat) (y z : Int) (_ : Value) (wx : World) : Prop :=
  ∃ b a n c b' a' n' c' y' z', wx.heap[s]? = some (.cells #[.bool b, .slice a n c] 107 (0, 0)) ∧ wx.heap[s + 1]? = some (.cells #[.bool b', .slice a' n' c'] 107 (0, 0)) ∧
    wx.heap[s + 1 + 1]? = some (.cells #[.bool false, .slice none 0 0, .bool false, .slice none 0 0] 109 (0, 0)) ∧
    NumV wx (.agg #[.bool b, .slice a n c]) y' ∧ NumV wx (.agg #[.bool b', .slice a' n' c']) z' ∧ 0 < z' ∧ Rat.divInt y' z' = Rat.divInt y z ∧ y'.natAbs = y.natAbs ∧ z'.natAbs = z.natAbs ∧ Ext w wx
theorem divInt_neg_neg (y z : Int) : Rat.divInt (-y) (-z) = Rat.divInt y z := by
  rw [Rat.divInt_eq_div, Rat.divInt_eq_div, Rat.intCast_neg, Rat.intCast_neg]
  by_cases h : (z : Rat) = 0
  · rw [h]; simp [Rat.div_def]
  · have : -(z : Rat) ≠ 0 := by grind
    grind
theorem divInt_coprime {y z : Int} (hz : 0 < z) (hg : Nat.gcd y.natAbs z.natAbs = 1) : (Rat.divInt y z).num = y ∧ (Rat.divInt y z).den = z.natAbs := by
  have e : (z : Int) = ((z.natAbs : Nat) : Int) := by omega
  rw [e, Rat.divInt_ofNat, Rat.mkRat_def, dif_neg (by omega), Rat.normalize_eq]
  simp only [Int.natAbs_natCast, hg]
  simp
theorem divInt_gcd {y z : Int} {G : Nat} (hz : 0 < z) (hg : G = Nat.gcd y.natAbs z.natAbs) : (Rat.divInt y z).num = y / G ∧ (Rat.divInt y z).den = z.natAbs / G := by
  have e : (z : Int) = ((z.natAbs : Nat) : Int) := by omega
  rw [e, Rat.divInt_ofNat, Rat.mkRat_def, dif_neg (by omega), Rat.normalize_eq]
  subst hg
  constructor <;> simp
theorem newRel_neg {w w2 : World} {s : Nat} {y z : Int} {o0 o1 b b' : Bool} {a a' p0 p1 : Option Addr} {n n' c c' m0 m1 k0 k1 : Nat} (hx : Ext w w2) (hs : w.heap.size ≤ s) (hz : z < 0) (v : Value)
    (h0 : w2.heap[s]? = some (.cells #[.bool o0, .slice p0 m0 k0] 107 (0, 0))) (h1 : w2.heap[s + 1]? = some (.cells #[.bool o1, .slice p1 m1 k1] 107 (0, 0)))
    (h2 : w2.heap[s + 1 + 1]? = some (.cells #[.bool false, .slice none 0 0, .bool false, .slice none 0 0] 109 (0, 0)))
    (hn : NumV w2 (.agg #[.bool b, .slice a n c]) (-y)) (hd : NumV w2 (.agg #[.bool b', .slice a' n' c']) (-z)) :
    NewRel w s y z v ((((w2.setCell ⟨s, 0, none⟩ (.bool b)).setCell ⟨s, 1, none⟩ (.slice a n c)).setCell ⟨s + 1, 0, none⟩ (.bool b')).setCell ⟨s + 1, 1, none⟩ (.slice a' n' c')) ∧
    NewRel w s y z v ((((w2.setCell ⟨s + 1, 0, none⟩ (.bool b')).setCell ⟨s + 1, 1, none⟩ (.slice a' n' c')).setCell ⟨s, 0, none⟩ (.bool b)).setCell ⟨s, 1, none⟩ (.slice a n c)) := by
  have hm : Rat.divInt (-y) (-z) = Rat.divInt y z := divInt_neg_neg y z
  constructor
  · have hb := blk4 (v0 := .bool b) (v1 := .slice a n c) (v2 := .bool b') (v3 := .slice a' n' c') h0 h1 (by omega)
    have hg1 := grown2 w2 s (.bool b) (.slice a n c)
    have hg2 := grown2 ((w2.setCell ⟨s, 0, none⟩ (.bool b)).setCell ⟨s, 1, none⟩ (.slice a n c)) (s + 1) (.bool b') (.slice a' n' c')
    have hno : NoInts ((w2.setCell ⟨s, 0, none⟩ (.bool b)).setCell ⟨s, 1, none⟩ (.slice a n c)) (s + 1) := by
      refine noInts2 (t := 107) (b := o1) (a := p1) (n := m1) (c := k1) ?_
      rw [hg1.block _ (lt_of_block h1) (by simp)]; exact h1
    refine ⟨b, a, n, c, b', a', n', c', -y, -z, hb.1, hb.2, ?_, (hn.grown (noInts2 h0) hg1).grown hno hg2, (hd.grown (noInts2 h0) hg1).grown hno hg2, by omega, hm, by omega, by omega, ext2 (ext2 hx hs _ _) (by omega) _ _⟩
    rw [hg2.block _ (by have := lt_of_block h2; have := hg1.size; omega) (by simp), hg1.block _ (lt_of_block h2) (by simp; omega)]; exact h2
  · have hb := blk4 (v0 := .bool b') (v1 := .slice a' n' c') (v2 := .bool b) (v3 := .slice a n c) h1 h0 (by omega)
    have hg1 := grown2 w2 (s + 1) (.bool b') (.slice a' n' c')
    have hg2 := grown2 ((w2.setCell ⟨s + 1, 0, none⟩ (.bool b')).setCell ⟨s + 1, 1, none⟩ (.slice a' n' c')) s (.bool b) (.slice a n c)
    have hno : NoInts ((w2.setCell ⟨s + 1, 0, none⟩ (.bool b')).setCell ⟨s + 1, 1, none⟩ (.slice a' n' c')) s := by
      refine noInts2 (t := 107) (b := o0) (a := p0) (n := m0) (c := k0) ?_
      rw [hg1.block _ (lt_of_block h0) (by simp)]; exact h0
    refine ⟨b, a, n, c, b', a', n', c', -y, -z, hb.2, hb.1, ?_, (hn.grown (noInts2 h1) hg1).grown hno hg2, (hd.grown (noInts2 h1) hg1).grown hno hg2, by omega, hm, by omega, by omega, ext2 (ext2 hx (by omega) _ _) hs _ _⟩
    rw [hg2.block _ (by have := lt_of_block h2; have := hg1.size; omega) (by simp; omega), hg1.block _ (lt_of_block h2) (by simp)]; exact h2
set_option maxRecDepth 100000 in
set_option maxHeartbeats 3200000 in
theorem fracNew_any (u v : Value) (y z : Int) (w : World) (hu : NumV w u y) (hv : NumV w v z) (sy : nl y.natAbs ≤ 4000000000000) (sz : nl z.natAbs ≤ 4000000000000) (hz : z ≠ 0) :
    Calls Tryz.prog 154 #[u, v] w (RetFrac w (Rat.divInt y z)) := by
  obtain ⟨p, a, n, c, rfl, hu⟩ := hu.opn
  obtain ⟨q, a', n', c', rfl, hv⟩ := hv.opn
  have HU := Lib.hid hu
  have HV := Lib.hid hv
  clear hu hv
  go_enter Tryz.func154, Tryz.ntmps154
  go_wp2_with fail
  have hb := box3 w (.cells #[.bool p, .slice a n c] 107) (.cells #[.bool q, .slice a' n' c'] 107) (.cells #[.bool false, .slice none 0 0, .bool false, .slice none 0 0] 109)
  generalize ((w.alloc (.cells #[.bool p, .slice a n c] 107)).alloc (.cells #[.bool q, .slice a' n' c'] 107)).alloc (.cells #[.bool false, .slice none 0 0, .bool false, .slice none 0 0] 109) = W at *
  obtain ⟨x0, b0, b1, b2⟩ := hb
  have X0 := Lib.hid x0
  have B0 := Lib.hid b0
  have B1 := Lib.hid b1
  have B2 := Lib.hid b2
  clear x0 b0 b1 b2
  refine (numSign_any _ z W (HV.out.ext X0.out) (by omega)).mono ?_
  rintro e W1 ⟨rfl, hx1⟩
  have X1 := Lib.hid hx1
  have C0 := Lib.hid (hx1.block B0.out)
  have C1 := Lib.hid (hx1.block B1.out)
  have C2 := Lib.hid (hx1.block B2.out)
  clear hx1
  obtain ⟨sg, hsg⟩ : ∃ sg, sg = sgn z := ⟨_, rfl⟩
  rw [← hsg]
  have HSG := Lib.hid hsg
  clear hsg
  go_upto_if 8 with fail
  go_cut [8] (NewRel w w.heap.size y z)
  case first =>
    by_cases hzn : z < 0
    · have hsn : sg < 0 := by rw [HSG.out, sgn_neg hzn]; omega
      have c0 := cell2_0 C0.out
      have c1 := cell2_1 C0.out
      have c2 := cell2_0 C1.out
      have c3 := cell2_1 C1.out
      have HA := Lib.hid (fun (W' : World) (x : Ext W1 W') => numNeg_any _ y W' (HU.out.ext ((X0.out.trans X1.out).trans x)) (by omega))
      have HB := Lib.hid (fun (W' : World) (x : Ext W1 W') => numNeg_any _ z W' (HV.out.ext ((X0.out.trans X1.out).trans x)) (by omega))
      go_wp2_with fail
      go_region_with (first
        | (go_at_call_of 192 (Value.agg #[Value.bool p, Value.slice a n c]); refine (HA.out _ (by repeat (first | exact Ext.refl _ | assumption | refine Ext.alloc ?_ _ | refine Ext.drew ?_ | refine Ext.trans ?_ (by assumption)))).mono ?_; rintro e w1 ⟨v1, rfl, hv1, hx1⟩; obtain ⟨b1, a1, n1, c1', rfl, hs1⟩ := hv1.opn; have HS1 := Lib.hid hs1; have y1 : Ext W1 w1 := (by repeat (first | exact Ext.refl _ | assumption | refine Ext.alloc ?_ _ | refine Ext.drew ?_ | refine Ext.trans ?_ (by assumption))); have k0 := y1.cell (p := ⟨w.heap.size, 0, none⟩) c0; have k1 := y1.cell (p := ⟨w.heap.size, 1, none⟩) c1; have k2 := y1.cell (p := ⟨w.heap.size + 1, 0, none⟩) c2; have k3 := y1.cell (p := ⟨w.heap.size + 1, 1, none⟩) c3; clear hv1 hs1)
        | (go_at_call_of 192 (Value.agg #[Value.bool q, Value.slice a' n' c']); refine (HB.out _ (by repeat (first | exact Ext.refl _ | assumption | refine Ext.alloc ?_ _ | refine Ext.drew ?_ | refine Ext.trans ?_ (by assumption)))).mono ?_; rintro e w2 ⟨v2, rfl, hv2, hx2⟩; obtain ⟨b2, a2, n2, c2', rfl, hs2⟩ := hv2.opn; have HS2 := Lib.hid hs2; have y2 : Ext w1 w2 := hx2; have z2 : Ext W1 w2 := y1.trans y2; have D0 := Lib.hid (z2.block C0.out); have D1 := Lib.hid (z2.block C1.out); have D2 := Lib.hid (z2.block C2.out); have l0 := cell2_0 D0.out; have l1 := cell2_1 D0.out; have l2 := cell2_0 D1.out; have l3 := cell2_1 D1.out; have f0 := frozen_of_row _ _ 0 _ _ D0.out; have f1 := frozen_of_row _ _ 1 _ _ D0.out; have f2 := frozen_of_row _ _ 0 _ _ D1.out; have f3 := frozen_of_row _ _ 1 _ _ D1.out; clear hv2 hs2))
      all_goals (try go_wp2_with fail)
      all_goals go_meet
      all_goals
        have hnr := newRel_neg (v := Value.bool true) ((X0.out.trans X1.out).trans z2) (Nat.le_refl _) hzn D0.out D1.out D2.out (HS1.out.ext y2) HS2.out
        first | exact hnr.1 | exact hnr.2
    · have hsn : ¬ sg < 0 := by rw [HSG.out, sgn_pos (by omega)]; omega
      go_wp2_with fail
      go_meet
      exact ⟨_, _, _, _, _, _, _, _, y, z, C0.out, C1.out, C2.out, HU.out.ext (X0.out.trans X1.out), HV.out.ext (X0.out.trans X1.out), by omega, rfl, rfl, rfl, X0.out.trans X1.out⟩
  case rest =>
    clear HU HV X0 X1 B0 B1 B2 C0 C1 C2 HSG
    obtain ⟨b, a, n, c, b', a', n', c', y', z', b0, b1, b2, hn, hd, hz0, heq, e1, e2, hx⟩ := hcut
    have sy' : nl y'.natAbs ≤ 4000000000000 := by rw [e1]; exact sy
    have sz' : nl z'.natAbs ≤ 4000000000000 := by rw [e2]; exact sz
    have HN := Lib.hid hn
    have HD := Lib.hid hd
    have HX := Lib.hid hx
    have HEQ := Lib.hid heq
    have B0 := Lib.hid b0
    have B1 := Lib.hid b1
    have B2 := Lib.hid b2
    have c0 := cell2_0 b0
    have c1 := cell2_1 b0
    have c2 := cell2_0 b1
    have c3 := cell2_1 b1
    obtain ⟨G, hG⟩ : ∃ G, G = Nat.gcd y'.natAbs z'.natAbs := ⟨_, rfl⟩
    have hgp : 0 < G := by rw [hG]; exact Nat.gcd_pos_of_pos_right _ (by omega)
    have hgs : nl G ≤ 4000000000000 := by rw [hG]; exact Nat.le_trans (nl_mono (Nat.gcd_le_right _ (by omega))) sz'
    have HG := Lib.hid hG
    have hgc := numGcd_any _ _ y' z' wc hn hd (by omega) (by omega)
    rw [← hG] at hgc
    have HGC := Lib.hid hgc
    clear hn hd hx heq e1 e2 b0 b1 b2 hG hgc sy sz hz
    go_wp2_with fail
    refine HGC.out.mono ?_
    rintro e w1 ⟨v1, rfl, hv1, hx1⟩
    obtain ⟨gb, ga, gn, gc, rfl, hv1⟩ := hv1.opn
    have HV1 := Lib.hid hv1
    have X1 := Lib.hid hx1
    clear hv1 hx1
    go_wp2_with fail
    have hal : Ext w1 (w1.alloc (.cells #[.bool gb, .slice ga gn gc] 107)) := (Ext.refl w1).alloc _
    have hnew := heap_alloc_new w1 (.cells #[.bool gb, .slice ga gn gc] 107)
    have hlt : w.heap.size + 1 + 1 < w1.heap.size := lt_of_block (X1.out.block B2.out)
    obtain ⟨gg, hgg⟩ : ∃ gg, gg = w1.heap.size := ⟨_, rfl⟩
    rw [← hgg] at hnew hlt ⊢
    generalize w1.alloc (.cells #[.bool gb, .slice ga gn gc] 107) = W2 at *
    have XW : Hid (Ext wc W2) := X1.out.trans hal
    have C0 := Lib.hid (XW.out.block B0.out)
    have C1 := Lib.hid (XW.out.block B1.out)
    have C2 := Lib.hid (XW.out.block B2.out)
    have C3 := Lib.hid hnew
    have HV2 := Lib.hid (HV1.out.ext hal)
    have HN2 := Lib.hid (HN.out.ext XW.out)
    have HD2 := Lib.hid (HD.out.ext XW.out)
    have XX := Lib.hid (HX.out.trans XW.out)
    have c0 := cell2_0 hnew
    have c1 := cell2_1 hnew
    clear hal hnew hgg HV1 HN HD HX X1 B0 B1 B2 XW
    have HO := Lib.hid (fun (W' : World) (_ : Ext W2 W') => numOf_any 1 W' (by omega) (by omega))
    go_region_held3 (fun w' => w'.cell? ⟨gg, 0, none⟩ = some (.bool gb) ∧ w'.cell? ⟨gg, 1, none⟩ = some (.slice ga gn gc)) (go_keep)
      (first
        | (go_at_call 130; refine (HO.out _ (Ext.refl _).drew).mono ?_; rintro e w2 ⟨v2, rfl, hv2, hx0⟩; have k0_0 := hx0.cell (p := ⟨gg, 0, none⟩) c0; have k0_1 := hx0.cell (p := ⟨gg, 1, none⟩) c1; have HV1 := Lib.hid hv2; have HX1 := Lib.hid hx0; clear hv2; clear hx0)
        | (go_at_call 129; refine (numCompare_any _ _ (G : Int) 1 _ (HV2.out.ext ((Ext.refl _).drew.trans HX1.out)) HV1.out (by rw [Int.natAbs_natCast]; omega) (by have := nl_one; simp; omega)).mono ?_; rintro e w3 ⟨rfl, hx1⟩; have k1_0 := hx1.cell (p := ⟨gg, 0, none⟩) k0_0; have k1_1 := hx1.cell (p := ⟨gg, 1, none⟩) k0_1; have HX2 := Lib.hid hx1; clear hx1 k0_0 k0_1))
    have X3 := Lib.hid ((Ext.refl W2).drew.trans (HX1.out.trans HX2.out))
    have D0 := Lib.hid (X3.out.block C0.out)
    have D1 := Lib.hid (X3.out.block C1.out)
    have D2 := Lib.hid (X3.out.block C2.out)
    have D3 := Lib.hid (X3.out.block C3.out)
    have HN3 := Lib.hid (HN2.out.ext X3.out)
    have HD3 := Lib.hid (HD2.out.ext X3.out)
    have HV3 := Lib.hid (HV2.out.ext X3.out)
    have XX3 := Lib.hid (XX.out.trans X3.out)
    clear c0 c1 C0 C1 C2 C3 HN2 HD2 HV2 XX X3 HX1 HX2 HV1
    obtain ⟨cm, hcm⟩ : ∃ cm, cm = sgn ((G : Int) - 1) := ⟨_, rfl⟩
    rw [← hcm]
    have HCM := Lib.hid hcm
    clear hcm
    have c0 := cell2_0 D0.out
    have c1 := cell2_1 D0.out
    have c2 := cell2_0 D1.out
    have c3 := cell2_1 D1.out
    have hbu := run_build_frac
    by_cases hG1 : G = 1
    · have hne : (cm != 0) = false := by rw [HCM.out, hG1]; rfl
      have d0 := cell4_0 D2.out
      have d1 := cell4_1 D2.out
      have d2 := cell4_2 D2.out
      have d3 := cell4_3 D2.out
      have f0 := frozen_of_row _ _ 0 _ _ D2.out
      have f1 := frozen_of_row _ _ 1 _ _ D2.out
      have f2 := frozen_of_row _ _ 2 _ _ D2.out
      have f3 := frozen_of_row _ _ 3 _ _ D2.out
      have hq := divInt_coprime hz0 (show Nat.gcd y'.natAbs z'.natAbs = 1 by rw [← HG.out]; exact hG1)
      rw [HEQ.out] at hq
      have HQ := Lib.hid hq
      clear hq hG1
      go_wp2_with fail
      refine ret_frac rfl rfl (blk4_set D2.out) rfl ⟨_, rfl, (frac_of rfl rfl HN3.out (d := z'.natAbs) (by rw [show ((z'.natAbs : Nat) : Int) = z' by omega]; exact HD3.out) HQ.out.1 HQ.out.2).grown (noInts4 D2.out) (grown4 _ _ _ _ _ _), ext4 XX3.out (by omega) _ _ _ _⟩
    · have hne : (cm != 0) = true := by rw [HCM.out, bne_iff_ne, sgn_pos (by omega)]; omega
      have hG0 : (G : Int) ≠ 0 := by omega
      have d0 := cell2_0 D3.out
      have d1 := cell2_1 D3.out
      have f0 := frozen_of_row _ _ 0 _ _ D0.out
      have f1 := frozen_of_row _ _ 1 _ _ D0.out
      have hq := divInt_gcd hz0 HG.out
      rw [HEQ.out] at hq
      have HQ := Lib.hid hq
      clear hq hG1
      go_wp2_with fail
      refine (numDiv_any _ _ y' G _ HN3.out HV3.out sy' (by rw [Int.natAbs_natCast]; exact hgs) hG0).mono ?_
      rintro e w4 ⟨v4, v5, rfl, hv4, hv5, hx4⟩
      obtain ⟨b4, a4, n4, c4, rfl, hv4⟩ := hv4.opn
      have X4 := Lib.hid hx4
      have HV4 := Lib.hid hv4
      have E0 := Lib.hid (X4.out.block D0.out)
      have E1 := Lib.hid (X4.out.block D1.out)
      have E2 := Lib.hid (X4.out.block D2.out)
      have E3 := Lib.hid (X4.out.block D3.out)
      have g0 := cell2_0 E0.out
      have g1 := cell2_1 E0.out
      have g2 := frozen_of_row _ _ 0 _ _ E0.out
      have g3 := frozen_of_row _ _ 1 _ _ E0.out
      clear hv4 hv5 hx4 c0 c1 c2 c3 d0 d1 f0 f1
      obtain ⟨W5, hW5⟩ : ∃ W5, W5 = (w4.setCell ⟨w.heap.size, 0, none⟩ (.bool b4)).setCell ⟨w.heap.size, 1, none⟩ (.slice a4 n4 c4) := ⟨_, rfl⟩
      have hg5 : w4.grownBy W5 (some w.heap.size) := by rw [hW5]; exact grown2 _ _ _ _
      have k0 : W5.heap[w.heap.size]? = some (.cells #[.bool b4, .slice a4 n4 c4] 107 (0, 0)) := by rw [hW5]; exact blk2_set E0.out
      have k1 : W5.heap[w.heap.size + 1]? = some (.cells #[.bool b', .slice a' n' c'] 107 (0, 0)) := by rw [hg5.block _ (lt_of_block E1.out) (by simp)]; exact E1.out
      have k2 : W5.heap[w.heap.size + 1 + 1]? = some (.cells #[.bool false, .slice none 0 0, .bool false, .slice none 0 0] 109 (0, 0)) := by rw [hg5.block _ (lt_of_block E2.out) (by simp; omega)]; exact E2.out
      have k3 : W5.heap[gg]? = some (.cells #[.bool gb, .slice ga gn gc] 107 (0, 0)) := by rw [hg5.block _ (lt_of_block E3.out) (by simp; omega)]; exact E3.out
      have hn5 := HV4.out.grown (noInts2 E0.out) hg5
      have hd5 := (HD3.out.ext X4.out).grown (noInts2 E0.out) hg5
      have hv5 := (HV3.out.ext X4.out).grown (noInts2 E0.out) hg5
      have xx5 : Ext w W5 := by rw [hW5]; exact ext2 (XX3.out.trans X4.out) (Nat.le_refl _) _ _
      have HW5 := Lib.hid hW5
      clear hW5 hg5
      go_upto_region 6 with fail
      rw [← HW5.out]
      have K0 := Lib.hid k0
      have K2 := Lib.hid k2
      have K1 := Lib.hid k1
      have c2 := cell2_0 k1
      have c3 := cell2_1 k1
      have d0 := cell2_0 k3
      have d1 := cell2_1 k3
      have HN5 := Lib.hid hn5
      have HD5 := Lib.hid hd5
      have HV5 := Lib.hid hv5
      have XX5 := Lib.hid xx5
      clear k0 k1 k2 k3 hn5 hd5 hv5 xx5 HW5 g0 g1 g2 g3 E0 E1 E2 E3 D0 D1 D2 D3 HN3 HD3 HV3 XX3 X4 HV4
      go_wp2_with fail
      refine (numDiv_any _ _ z' G _ HD5.out HV5.out sz' (by rw [Int.natAbs_natCast]; exact hgs) hG0).mono ?_
      rintro e w6 ⟨v6, v7, rfl, hv6, hv7, hx6⟩
      obtain ⟨b6, a6, n6, c6, rfl, hv6⟩ := hv6.opn
      have X6 := Lib.hid hx6
      have HV6 := Lib.hid hv6
      have E0 := Lib.hid (X6.out.block K0.out)
      have E1 := Lib.hid (X6.out.block K1.out)
      have E2 := Lib.hid (X6.out.block K2.out)
      have g0 := cell2_0 E1.out
      have g1 := cell2_1 E1.out
      have g2 := frozen_of_row _ _ 0 _ _ E1.out
      have g3 := frozen_of_row _ _ 1 _ _ E1.out
      clear hv6 hv7 hx6 c2 c3 d0 d1
      obtain ⟨W7, hW7⟩ : ∃ W7, W7 = (w6.setCell ⟨w.heap.size + 1, 0, none⟩ (.bool b6)).setCell ⟨w.heap.size + 1, 1, none⟩ (.slice a6 n6 c6) := ⟨_, rfl⟩
      have hg7 : w6.grownBy W7 (some (w.heap.size + 1)) := by rw [hW7]; exact grown2 _ _ _ _
      have k1 : W7.heap[w.heap.size + 1]? = some (.cells #[.bool b6, .slice a6 n6 c6] 107 (0, 0)) := by rw [hW7]; exact blk2_set E1.out
      have k0 : W7.heap[w.heap.size]? = some (.cells #[.bool b4, .slice a4 n4 c4] 107 (0, 0)) := by rw [hg7.block _ (lt_of_block E0.out) (by simp)]; exact E0.out
      have k2 : W7.heap[w.heap.size + 1 + 1]? = some (.cells #[.bool false, .slice none 0 0, .bool false, .slice none 0 0] 109 (0, 0)) := by rw [hg7.block _ (lt_of_block E2.out) (by simp)]; exact E2.out
      have hn7 := (HN5.out.ext X6.out).grown (noInts2 E1.out) hg7
      have hd7 := HV6.out.grown (noInts2 E1.out) hg7
      have xx7 : Ext w W7 := by rw [hW7]; exact ext2 (XX5.out.trans X6.out) (by omega) _ _
      have HW7 := Lib.hid hW7
      clear hW7 hg7
      go_upto_region 7 with fail
      rw [← HW7.out]
      have D2 := Lib.hid k2
      have c0 := cell2_0 k0
      have c1 := cell2_1 k0
      have c2 := cell2_0 k1
      have c3 := cell2_1 k1
      have d0 := cell4_0 k2
      have d1 := cell4_1 k2
      have d2 := cell4_2 k2
      have d3 := cell4_3 k2
      have f0 := frozen_of_row _ _ 0 _ _ k2
      have f1 := frozen_of_row _ _ 1 _ _ k2
      have f2 := frozen_of_row _ _ 2 _ _ k2
      have f3 := frozen_of_row _ _ 3 _ _ k2
      have HN7 := Lib.hid hn7
      have HD7 := Lib.hid hd7
      have XX7 := Lib.hid xx7
      clear k0 k1 k2 hn7 hd7 xx7 g0 g1 g2 g3 HW7
      go_wp2_with fail
      refine ret_frac rfl rfl (blk4_set D2.out) rfl ⟨_, rfl, (frac_of rfl rfl HN7.out (d := z'.natAbs / G) (by rw [show ((z'.natAbs / G : Nat) : Int) = z' / G by rw [Int.natCast_ediv, show ((z'.natAbs : Nat) : Int) = z' by omega]]; exact HD7.out) HQ.out.1 HQ.out.2).grown (noInts4 D2.out) (grown4 _ _ _ _ _ _), ext4 XX7.out (by omega) _ _ _ _⟩
end Go.Proofs.YtpdboaedoimahaaGreatDoor
end
section
namespace Go.Proofs.YtpdboaedoimahaaGreatDoor
open Go.RowKit
def planB (ops : Array Oper) : List (Nat × Bool) → Array Bool → Bool
  | [], listed => (Region.ready .any ops listed).isEmpty
  | (i, true) :: rest, listed => (Region.ready .any ops listed).contains i && Region.free .any ops listed i && planB ops rest (listed.setIfInBounds i true)
  | (i, false) :: rest, listed => decide (Region.ready .any ops listed = [i]) && planB ops rest (listed.setIfInBounds i true)
def wpPlan (P : Program) (ops : Array Oper) (Q : Exit → Act → World → Prop) (S : World → Prop) : List (Nat × Bool) → Act → World → Prop
  | [], a, w => Q .normal a w
  | (i, true) :: rest, a, w => ∃ o v, ops[i]? = some o ∧ YieldsIf P ops S o v a ∧ wpPlan P ops Q S rest (a.put o.dst v) w
  | (i, false) :: rest, a, w => wpOp P ops (NoPanic Q) i (fun a' w' => S w' ∧ wpPlan P ops Q S rest a' w') a w
theorem wpAnyH_of_plan {P : Program} {ops : Array Oper} {Q : Exit → Act → World → Prop} {S : World → Prop} (hs : Region.noSelect ops = true) :
    ∀ (plan : List (Nat × Bool)) (listed : Array Bool) (a : Act) (w : World), planB ops plan listed = true → S w → wpPlan P ops Q S plan a w →
      wpAnyH P .any ops (NoPanic Q) S plan.length listed a w
  | [], listed, a, w, hB, _, h => wpAnyH_done (by simpa [planB] using hB) (NoPanic.normal h) _
  | (i, true) :: rest, listed, a, w, hB, hS, h => by
    simp only [planB, Bool.and_eq_true] at hB
    obtain ⟨o, v, ho, hy, hr⟩ := h
    exact wpAnyH_take ho hs hB.1.2 hB.1.1 (fun _ _ _ h => h) hy hS (wpAnyH_of_plan hs rest _ _ w hB.2 hS hr)
  | (i, false) :: rest, listed, a, w, hB, hS, h => by
    simp only [planB, Bool.and_eq_true, decide_eq_true_eq] at hB
    refine wpAnyH_all hB.1 (by simp) (fun j hj => ?_)
    obtain rfl : j = i := by simpa using hj
    exact wpOp_mono (fun a' w' ⟨h1, h2⟩ => ⟨h1, wpAnyH_of_plan hs rest _ a' w' hB.2 h1 h2⟩) h
theorem wp_region_plan {P : Program} {id : Nat} {l : List Oper} {Q : Exit → Act → World → Prop} {a : Act} {w : World} (plan : List (Nat × Bool)) (S : World → Prop)
    (hm : P.follows .mixedOrders = true) (hl : plan.length = l.length) (hs : Region.noSelect l.toArray = true) (hB : planB l.toArray plan (Array.replicate l.length false) = true)
    (hS : S w.drew) (h : wpPlan P l.toArray Q S plan a w.drew) : (Code.region id l.toArray true).wp P Q a w := by
  refine wp_region_noPanic (wp_region_held_drew (S := S) hm hS fun _ => ?_)
  have := wpAnyH_of_plan hs plan _ a w.drew hB hS h
  rw [hl] at this
  simpa using this
def nth : List Oper → Nat → Option Oper
  | [], _ => none
  | o :: _, 0 => some o
  | _ :: l, i + 1 => nth l i
theorem nth_eq (l : List Oper) (i : Nat) : nth l i = l.toArray[i]? := by
  rw [List.getElem?_toArray]
  induction l generalizing i with
  | nil => simp [nth]
  | cons o l ih => cases i <;> simp [nth, ih]
theorem plan_read {P : Program} {l : List Oper} {Q : Exit → Act → World → Prop} {S : World → Prop} {i : Nat} {rest : List (Nat × Bool)} {t : Array Value} {df : List Deferred} {w : World} {o : Oper} (d : Nat) (v : Value)
    (ho : nth l i = some o) (hd : o.dst = some d) (hg : o.guard = none) (hy : ∀ w, S w → (execOp (Act.eval ⟨t, df⟩) o).run P w = .ok (.value v) w) (h : wpPlan P l.toArray Q S rest ⟨t.setIfInBounds d v, df⟩ w) :
    wpPlan P l.toArray Q S ((i, true) :: rest) ⟨t, df⟩ w :=
  ⟨o, v, by rw [← nth_eq]; exact ho, Or.inl ⟨by simp [Region.wanted, hg], hy⟩, by rw [hd]; exact h⟩
theorem plan_op {P : Program} {l : List Oper} {Q : Exit → Act → World → Prop} {S : World → Prop} {i : Nat} {rest : List (Nat × Bool)} {a : Act} {w : World} {o : Oper}
    (ho : nth l i = some o) (hg : o.guard = none) (h : ∀ K : Act → World → Prop, (∀ a w, S w → wpPlan P l.toArray Q S rest a w → K a w) → o.wp P a w K (NoPanic Q)) :
    wpPlan P l.toArray Q S ((i, false) :: rest) a w := by
  show wpOp P l.toArray (NoPanic Q) i _ a w
  refine wpOp_step (by rw [← nth_eq]; exact ho) (fun K' hK => ?_)
  simp only [Region.wanted, hg, if_true]
  exact h K' (fun a w h1 h2 => hK a w ⟨h1, h2⟩)
theorem plan_nil {P : Program} {ops : Array Oper} {Q : Exit → Act → World → Prop} {S : World → Prop} {a : Act} {w : World} (h : Q .normal a w) : wpPlan P ops Q S [] a w := h
end Go.Proofs.YtpdboaedoimahaaGreatDoor
end
section
namespace Go.Proofs.YtpdboaedoimahaaGreatDoor
open Go.RowKit
def Sz (q : Rat) (k : Nat) : Prop := nl q.num.natAbs ≤ k ∧ nl q.den ≤ k
theorem mul_whole {q r : Rat} (h1 : q.den = 1) (h2 : r.den = 1) : ((q.num * r.num : Int) : Rat) = q * r := by
  rw [Rat.mul_def', h1, h2, Nat.one_mul, Rat.mkRat_one]
theorem mul_new (q r : Rat) : Rat.divInt (q.num * r.num) ((q.den : Int) * (r.den : Int)) = q * r := by
  rw [Rat.mul_def', ← Rat.divInt_ofNat, Int.natCast_mul]
theorem nl_mulZ {y z : Int} {k : Nat} (h1 : nl y.natAbs ≤ k) (h2 : nl z.natAbs ≤ k) : nl (y * z).natAbs ≤ 2 * k := by
  rw [Int.natAbs_mul]; have := nl_mul y.natAbs z.natAbs; omega
theorem block_of {w w' : World} {g k : Nat} {o : Obj} (h : w.grownBy w' (some g)) (hk : w.heap[k]? = some o) (hne : k ≠ g) : w'.heap[k]? = some o := by
  rw [h.block k (lt_of_block hk) (by simp; exact hne)]; exact hk
theorem exec_load_num (a : Act) (o : Oper) (x : Operand) (ho : o.op = .load 107 x) (g off : Nat) (hx : a.eval x = .pointer (some ⟨g, off, none⟩)) (W : World) (v0 v1 : Value)
    (h0 : W.cell? ⟨g, off, none⟩ = some v0) (h1 : W.cell? ⟨g, off + 1, none⟩ = some v1) : (execOp a.eval o).run Tryz.prog W = .ok (.value (.agg #[v0, v1])) W := by
  unfold execOp
  simp only [ho, hx]
  simp [go_sem, h0, h1]
end Go.Proofs.YtpdboaedoimahaaGreatDoor
end
section
namespace Go.Proofs.YtpdboaedoimahaaGreatDoor
open Go.RowKit
theorem add_whole {q r : Rat} (h1 : q.den = 1) (h2 : r.den = 1) : ((q.num + r.num : Int) : Rat) = q + r := by
  rw [Rat.add_def', h1, h2, Nat.one_mul, Rat.mkRat_one]; simp
theorem add_new (q r : Rat) : Rat.divInt (q.num * (r.den : Int) + r.num * (q.den : Int)) ((q.den : Int) * (r.den : Int)) = q + r := by
  rw [Rat.add_def', ← Rat.divInt_ofNat, Int.natCast_mul]
theorem nl_addZ {y z : Int} {k : Nat} (h1 : nl y.natAbs ≤ k) (h2 : nl z.natAbs ≤ k) : nl (y + z).natAbs ≤ k + 1 := by
  have := nl_add y.natAbs z.natAbs
  have h3 : nl (y + z).natAbs ≤ nl (y.natAbs + z.natAbs) := nl_mono (by omega)
  omega
theorem den_ne (q r : Rat) : (q.den : Int) * (r.den : Int) ≠ 0 := by
  have e1 := q.den_nz
  have e2 := r.den_nz
  exact Int.mul_ne_zero (by omega) (by omega)
set_option maxRecDepth 100000 in
set_option maxHeartbeats 3200000 in
theorem fracMul_any (u v : Value) (q r : Rat) (w : World) (hu : FracV w u q) (hv : FracV w v r) (h1 : Sz q 1000000000000) (h2 : Sz r 1000000000000) :
    Calls Tryz.prog 89 #[u, v] w (RetFrac w (q * r)) := by
  have Hu := Lib.hid hu
  obtain ⟨a, n, c, a', n', c', rfl, _, _⟩ := hu
  obtain ⟨p, hp⟩ : ∃ p, p = decide (q.num < 0) := ⟨_, rfl⟩
  rw [← hp] at Hu ⊢
  clear hp
  have Hv := Lib.hid hv
  obtain ⟨a2, n2, c2, a2', n2', c2', rfl, _, _⟩ := hv
  obtain ⟨p2, hp2⟩ : ∃ p2, p2 = decide (r.num < 0) := ⟨_, rfl⟩
  rw [← hp2] at Hv ⊢
  clear hp2
  have H1 := Lib.hid h1
  have H2 := Lib.hid h2
  clear h1 h2
  have HW1 := Lib.hid (fun (W' : World) (x : Ext w W') => fracWhole_any _ q W' (Hu.out.ext x) (Nat.le_trans H1.out.2 (by omega)))
  have HW2 := Lib.hid (fun (W' : World) (x : Ext w W') => fracWhole_any _ r W' (Hv.out.ext x) (Nat.le_trans H2.out.2 (by omega)))
  go_enter Tryz.func89, Tryz.ntmps89
  go_wp2_with fail
  have hb := box3 w (.cells #[.bool p, .slice a n c, .bool false, .slice a' n' c'] 109) (.cells #[.bool p2, .slice a2 n2 c2, .bool false, .slice a2' n2' c2'] 109) (.cells #[.bool false, .slice none 0 0, .bool false, .slice none 0 0] 109)
  generalize ((w.alloc (.cells #[.bool p, .slice a n c, .bool false, .slice a' n' c'] 109)).alloc (.cells #[.bool p2, .slice a2 n2 c2, .bool false, .slice a2' n2' c2'] 109)).alloc (.cells #[.bool false, .slice none 0 0, .bool false, .slice none 0 0] 109) = W at *
  obtain ⟨x0, b0, b1, b2⟩ := hb
  have X0 := Lib.hid x0
  have B0 := Lib.hid b0
  have B1 := Lib.hid b1
  have B2 := Lib.hid b2
  clear x0 b0 b1 b2
  refine (HW1.out W X0.out).mono ?_
  rintro e W1 ⟨rfl, hx1⟩
  have X1 := Lib.hid hx1
  have A0 := Lib.hid (hx1.block B0.out)
  have A1 := Lib.hid (hx1.block B1.out)
  have A2 := Lib.hid (hx1.block B2.out)
  have c0 := cell4_0 A1.out
  have c1 := cell4_1 A1.out
  have c2' := cell4_2 A1.out
  have c3 := cell4_3 A1.out
  clear hx1
  by_cases hq1 : q.den = 1
  · rw [show decide (q.den = 1) = true by simp [hq1]]
    have HQ1 := Lib.hid hq1
    clear hq1
    go_wp2_with fail
    refine (HW2.out W1 (X0.out.trans X1.out)).mono ?_
    rintro e Wc ⟨rfl, hx2⟩
    have XC := Lib.hid ((X0.out.trans X1.out).trans hx2)
    have C0 := Lib.hid (hx2.block A0.out)
    have C1 := Lib.hid (hx2.block A1.out)
    have C2 := Lib.hid (hx2.block A2.out)
    clear hx2 c0 c1 c2' c3 A0 A1 A2
    by_cases hr1 : r.den = 1
    · rw [show decide (r.den = 1) = true by simp [hr1]]
      have HR1 := Lib.hid hr1
      clear hr1
      have e0 := cell4_0 C0.out
      have e1 := cell4_1 C0.out
      have e2 := cell4_0 C1.out
      have e3 := cell4_1 C1.out
      go_wp2_with fail
      refine (numMul_any _ _ q.num r.num Wc (Hu.out.num.ext XC.out) (Hv.out.num.ext XC.out) (Nat.le_trans H1.out.1 (by omega)) (Nat.le_trans H2.out.1 (by omega))).mono ?_
      rintro e w1 ⟨v1, rfl, hv1, hx1⟩
      have HV1 := Lib.hid hv1
      have Y1 := Lib.hid hx1
      clear hv1 hx1
      go_wp2_with fail
      refine (fracOfNum_any _ _ _ HV1.out).mono ?_
      rintro e w2 ⟨v2, rfl, hv2, hx2⟩
      obtain ⟨b3, a3, n3, c3, b3', a3', n3', c3', rfl, hr3⟩ := hv2.opn
      have HR := Lib.hid hr3
      have XF := Lib.hid (Y1.out.trans hx2)
      have BB := Lib.hid (XF.out.block C2.out)
      have d0 := cell4_0 BB.out
      have d1 := cell4_1 BB.out
      have d2 := cell4_2 BB.out
      have d3 := cell4_3 BB.out
      have f0 := frozen_of_row _ _ 0 _ _ BB.out
      have f1 := frozen_of_row _ _ 1 _ _ BB.out
      have f2 := frozen_of_row _ _ 2 _ _ BB.out
      have f3 := frozen_of_row _ _ 3 _ _ BB.out
      clear hv2 hx2 hr3 e0 e1 e2 e3
      go_wp2_with fail
      refine ret_frac rfl rfl (blk4_set BB.out) rfl ⟨_, rfl, ?_, ext4 (XC.out.trans XF.out) (by omega) _ _ _ _⟩
      rw [← mul_whole HQ1.out HR1.out]
      exact HR.out.grown (noInts4 BB.out) (grown4 _ _ _ _ _ _)
    · rw [show decide (r.den = 1) = false by simp [hr1]]
      clear hr1
      go_wp2_with fail
      have S0 : Wc.drew.heap[w.heap.size]? = some (.cells #[.bool p, .slice a n c, .bool false, .slice a' n' c'] 109 (0, 0)) ∧ Wc.drew.heap[w.heap.size + 1]? = some (.cells #[.bool p2, .slice a2 n2 c2, .bool false, .slice a2' n2' c2'] 109 (0, 0)) := ⟨C0.out, C1.out⟩
      have E0 := Lib.hid ((Ext.refl Wc).drew)
      refine wp_region_plan [(0, true), (1, true), (2, true), (3, true), (5, true), (6, true), (7, true), (8, true), (4, false), (9, false), (10, false), (11, false)] (fun w' => w'.heap[w.heap.size]? = some (.cells #[.bool p, .slice a n c, .bool false, .slice a' n' c'] 109 (0, 0)) ∧ w'.heap[w.heap.size + 1]? = some (.cells #[.bool p2, .slice a2 n2 c2, .bool false, .slice a2' n2' c2'] 109 (0, 0))) (by kernel_rfl) rfl (by kernel_rfl) (by kernel_rfl) (S0) ?_
      refine plan_read 17 (.pointer (some ⟨w.heap.size, 0, none⟩)) rfl rfl rfl (fun W' _ => by kernel_rfl) ?_
      simp only [List.setIfInBounds_toArray, List.set_cons_zero, List.set_cons_succ]
      refine plan_read 18 (Value.agg #[Value.bool p, Value.slice a n c]) rfl rfl rfl (fun W' hS => exec_load_num _ _ _ rfl _ _ rfl W' _ _ (cell4_0 hS.1) (cell4_1 hS.1)) ?_
      simp only [List.setIfInBounds_toArray, List.set_cons_zero, List.set_cons_succ]
      refine plan_read 19 (.pointer (some ⟨w.heap.size + 1, 0, none⟩)) rfl rfl rfl (fun W' _ => by kernel_rfl) ?_
      simp only [List.setIfInBounds_toArray, List.set_cons_zero, List.set_cons_succ]
      refine plan_read 20 (Value.agg #[Value.bool p2, Value.slice a2 n2 c2]) rfl rfl rfl (fun W' hS => exec_load_num _ _ _ rfl _ _ rfl W' _ _ (cell4_0 hS.2) (cell4_1 hS.2)) ?_
      simp only [List.setIfInBounds_toArray, List.set_cons_zero, List.set_cons_succ]
      refine plan_read 22 (.pointer (some ⟨w.heap.size, 2, none⟩)) rfl rfl rfl (fun W' _ => by kernel_rfl) ?_
      simp only [List.setIfInBounds_toArray, List.set_cons_zero, List.set_cons_succ]
      refine plan_read 23 (Value.agg #[Value.bool false, Value.slice a' n' c']) rfl rfl rfl (fun W' hS => exec_load_num _ _ _ rfl _ _ rfl W' _ _ (cell4_2 hS.1) (cell4_3 hS.1)) ?_
      simp only [List.setIfInBounds_toArray, List.set_cons_zero, List.set_cons_succ]
      refine plan_read 24 (.pointer (some ⟨w.heap.size + 1, 2, none⟩)) rfl rfl rfl (fun W' _ => by kernel_rfl) ?_
      simp only [List.setIfInBounds_toArray, List.set_cons_zero, List.set_cons_succ]
      refine plan_read 25 (Value.agg #[Value.bool false, Value.slice a2' n2' c2']) rfl rfl rfl (fun W' hS => exec_load_num _ _ _ rfl _ _ rfl W' _ _ (cell4_2 hS.2) (cell4_3 hS.2)) ?_
      simp only [List.setIfInBounds_toArray, List.set_cons_zero, List.set_cons_succ]
      refine plan_op rfl rfl (fun K hK => ?_)
      have HK := Lib.hid hK
      clear hK
      go_simp
      refine (numMul_any _ _ q.num r.num _ (Hu.out.num.ext (XC.out.trans (E0).out)) (Hv.out.num.ext (XC.out.trans (E0).out)) (Nat.le_trans H1.out.1 (by omega)) (Nat.le_trans H2.out.1 (by omega))).mono ?_
      rintro e w1 ⟨v1, rfl, hv1, hx1⟩
      have S1 := And.intro (hx1.block S0.1) (hx1.block S0.2)
      have HV1 := Lib.hid hv1
      have HX1 := Lib.hid hx1
      have E1 := Lib.hid (E0.out.trans hx1)
      clear hv1 hx1 S0
      refine HK.out _ _ S1 ?_
      clear HK K
      refine plan_op rfl rfl (fun K hK => ?_)
      have HK := Lib.hid hK
      clear hK
      go_simp
      refine (numMul_any _ _ (q.den : Int) (r.den : Int) _ (Hu.out.den.ext (XC.out.trans (E1).out)) (Hv.out.den.ext (XC.out.trans (E1).out)) (by rw [Int.natAbs_natCast]; exact Nat.le_trans H1.out.2 (by omega)) (by rw [Int.natAbs_natCast]; exact Nat.le_trans H2.out.2 (by omega))).mono ?_
      rintro e w2 ⟨v2, rfl, hv2, hx2⟩
      have S2 := And.intro (hx2.block S1.1) (hx2.block S1.2)
      have HV2 := Lib.hid hv2
      have HX2 := Lib.hid hx2
      have E2 := Lib.hid (E1.out.trans hx2)
      clear hv2 hx2 S1
      refine HK.out _ _ S2 ?_
      clear HK K
      refine plan_op rfl rfl (fun K hK => ?_)
      have HK := Lib.hid hK
      clear hK
      go_simp
      refine (fracNew_any _ _ _ _ _ (HV1.out.ext HX2.out) HV2.out (by have := nl_mulZ (k := 1000000000000) (H1.out.1) (H2.out.1); omega) (by have := nl_mulZ (k := 1000000000000) (by rw [Int.natAbs_natCast]; exact H1.out.2) (by rw [Int.natAbs_natCast]; exact H2.out.2); omega) (den_ne q r)).mono ?_
      rintro e w3 ⟨v3, rfl, hv3, hx3⟩
      obtain ⟨b3, a3, n3, c3, b3', a3', n3', c3', rfl, hr3⟩ := hv3.opn
      have SL := And.intro (hx3.block S2.1) (hx3.block S2.2)
      have HR := Lib.hid hr3
      have XF := Lib.hid (E2.out.trans hx3)
      clear hv3 hr3 hx3 S2
      refine HK.out _ _ SL ?_
      have BB := Lib.hid (XF.out.block C2.out)
      have d0 := cell4_0 BB.out
      have d1 := cell4_1 BB.out
      have d2 := cell4_2 BB.out
      have d3 := cell4_3 BB.out
      have f0 := frozen_of_row _ _ 0 _ _ BB.out
      have f1 := frozen_of_row _ _ 1 _ _ BB.out
      have f2 := frozen_of_row _ _ 2 _ _ BB.out
      have f3 := frozen_of_row _ _ 3 _ _ BB.out
      clear HK K
      refine plan_op rfl rfl (fun K hK => ?_)
      have HK := Lib.hid hK
      clear hK
      go_simp
      refine HK.out _ _ ⟨block_of (grown4 _ _ _ _ _ _) SL.1 (by omega), block_of (grown4 _ _ _ _ _ _) SL.2 (by omega)⟩ ?_
      clear HK K
      refine plan_nil ?_
      go_wp2_with fail
      refine ret_frac rfl rfl (blk4_set BB.out) rfl ⟨_, rfl, ?_, ext4 (XC.out.trans XF.out) (by omega) _ _ _ _⟩
      rw [← mul_new q r]
      exact HR.out.grown (noInts4 BB.out) (grown4 _ _ _ _ _ _)
  · rw [show decide (q.den = 1) = false by simp [hq1]]
    clear hq1 c0 c1 c2' c3
    have C0 := A0
    have C1 := A1
    have C2 := A2
    clear A0 A1 A2
    obtain ⟨Wc, hWc⟩ : ∃ Wc : World, Wc = W1 := ⟨_, rfl⟩
    subst hWc
    have XC := Lib.hid (X0.out.trans X1.out)
    clear X1
    go_wp2_with fail
    have S0 : Wc.drew.heap[w.heap.size]? = some (.cells #[.bool p, .slice a n c, .bool false, .slice a' n' c'] 109 (0, 0)) ∧ Wc.drew.heap[w.heap.size + 1]? = some (.cells #[.bool p2, .slice a2 n2 c2, .bool false, .slice a2' n2' c2'] 109 (0, 0)) := ⟨C0.out, C1.out⟩
    have E0 := Lib.hid ((Ext.refl Wc).drew)
    refine wp_region_plan [(0, true), (1, true), (2, true), (3, true), (5, true), (6, true), (7, true), (8, true), (4, false), (9, false), (10, false), (11, false)] (fun w' => w'.heap[w.heap.size]? = some (.cells #[.bool p, .slice a n c, .bool false, .slice a' n' c'] 109 (0, 0)) ∧ w'.heap[w.heap.size + 1]? = some (.cells #[.bool p2, .slice a2 n2 c2, .bool false, .slice a2' n2' c2'] 109 (0, 0))) (by kernel_rfl) rfl (by kernel_rfl) (by kernel_rfl) (S0) ?_
    refine plan_read 17 (.pointer (some ⟨w.heap.size, 0, none⟩)) rfl rfl rfl (fun W' _ => by kernel_rfl) ?_
    simp only [List.setIfInBounds_toArray, List.set_cons_zero, List.set_cons_succ]
    refine plan_read 18 (Value.agg #[Value.bool p, Value.slice a n c]) rfl rfl rfl (fun W' hS => exec_load_num _ _ _ rfl _ _ rfl W' _ _ (cell4_0 hS.1) (cell4_1 hS.1)) ?_
    simp only [List.setIfInBounds_toArray, List.set_cons_zero, List.set_cons_succ]
    refine plan_read 19 (.pointer (some ⟨w.heap.size + 1, 0, none⟩)) rfl rfl rfl (fun W' _ => by kernel_rfl) ?_
    simp only [List.setIfInBounds_toArray, List.set_cons_zero, List.set_cons_succ]
    refine plan_read 20 (Value.agg #[Value.bool p2, Value.slice a2 n2 c2]) rfl rfl rfl (fun W' hS => exec_load_num _ _ _ rfl _ _ rfl W' _ _ (cell4_0 hS.2) (cell4_1 hS.2)) ?_
    simp only [List.setIfInBounds_toArray, List.set_cons_zero, List.set_cons_succ]
    refine plan_read 22 (.pointer (some ⟨w.heap.size, 2, none⟩)) rfl rfl rfl (fun W' _ => by kernel_rfl) ?_
    simp only [List.setIfInBounds_toArray, List.set_cons_zero, List.set_cons_succ]
    refine plan_read 23 (Value.agg #[Value.bool false, Value.slice a' n' c']) rfl rfl rfl (fun W' hS => exec_load_num _ _ _ rfl _ _ rfl W' _ _ (cell4_2 hS.1) (cell4_3 hS.1)) ?_
    simp only [List.setIfInBounds_toArray, List.set_cons_zero, List.set_cons_succ]
    refine plan_read 24 (.pointer (some ⟨w.heap.size + 1, 2, none⟩)) rfl rfl rfl (fun W' _ => by kernel_rfl) ?_
    simp only [List.setIfInBounds_toArray, List.set_cons_zero, List.set_cons_succ]
    refine plan_read 25 (Value.agg #[Value.bool false, Value.slice a2' n2' c2']) rfl rfl rfl (fun W' hS => exec_load_num _ _ _ rfl _ _ rfl W' _ _ (cell4_2 hS.2) (cell4_3 hS.2)) ?_
    simp only [List.setIfInBounds_toArray, List.set_cons_zero, List.set_cons_succ]
    refine plan_op rfl rfl (fun K hK => ?_)
    have HK := Lib.hid hK
    clear hK
    go_simp
    refine (numMul_any _ _ q.num r.num _ (Hu.out.num.ext (XC.out.trans (E0).out)) (Hv.out.num.ext (XC.out.trans (E0).out)) (Nat.le_trans H1.out.1 (by omega)) (Nat.le_trans H2.out.1 (by omega))).mono ?_
    rintro e w1 ⟨v1, rfl, hv1, hx1⟩
    have S1 := And.intro (hx1.block S0.1) (hx1.block S0.2)
    have HV1 := Lib.hid hv1
    have HX1 := Lib.hid hx1
    have E1 := Lib.hid (E0.out.trans hx1)
    clear hv1 hx1 S0
    refine HK.out _ _ S1 ?_
    clear HK K
    refine plan_op rfl rfl (fun K hK => ?_)
    have HK := Lib.hid hK
    clear hK
    go_simp
    refine (numMul_any _ _ (q.den : Int) (r.den : Int) _ (Hu.out.den.ext (XC.out.trans (E1).out)) (Hv.out.den.ext (XC.out.trans (E1).out)) (by rw [Int.natAbs_natCast]; exact Nat.le_trans H1.out.2 (by omega)) (by rw [Int.natAbs_natCast]; exact Nat.le_trans H2.out.2 (by omega))).mono ?_
    rintro e w2 ⟨v2, rfl, hv2, hx2⟩
    have S2 := And.intro (hx2.block S1.1) (hx2.block S1.2)
    have HV2 := Lib.hid hv2
    have HX2 := Lib.hid hx2
    have E2 := Lib.hid (E1.out.trans hx2)
    clear hv2 hx2 S1
    refine HK.out _ _ S2 ?_
    clear HK K
    refine plan_op rfl rfl (fun K hK => ?_)
    have HK := Lib.hid hK
    clear hK
    go_simp
    refine (fracNew_any _ _ _ _ _ (HV1.out.ext HX2.out) HV2.out (by have := nl_mulZ (k := 1000000000000) (H1.out.1) (H2.out.1); omega) (by have := nl_mulZ (k := 1000000000000) (by rw [Int.natAbs_natCast]; exact H1.out.2) (by rw [Int.natAbs_natCast]; exact H2.out.2); omega) (den_ne q r)).mono ?_
    rintro e w3 ⟨v3, rfl, hv3, hx3⟩
    obtain ⟨b3, a3, n3, c3, b3', a3', n3', c3', rfl, hr3⟩ := hv3.opn
    have SL := And.intro (hx3.block S2.1) (hx3.block S2.2)
    have HR := Lib.hid hr3
    have XF := Lib.hid (E2.out.trans hx3)
    clear hv3 hr3 hx3 S2
    refine HK.out _ _ SL ?_
    have BB := Lib.hid (XF.out.block C2.out)
    have d0 := cell4_0 BB.out
    have d1 := cell4_1 BB.out
    have d2 := cell4_2 BB.out
    have d3 := cell4_3 BB.out
    have f0 := frozen_of_row _ _ 0 _ _ BB.out
    have f1 := frozen_of_row _ _ 1 _ _ BB.out
    have f2 := frozen_of_row _ _ 2 _ _ BB.out
    have f3 := frozen_of_row _ _ 3 _ _ BB.out
    clear HK K
    refine plan_op rfl rfl (fun K hK => ?_)
    have HK := Lib.hid hK
    clear hK
    go_simp
    refine HK.out _ _ ⟨block_of (grown4 _ _ _ _ _ _) SL.1 (by omega), block_of (grown4 _ _ _ _ _ _) SL.2 (by omega)⟩ ?_
    clear HK K
    refine plan_nil ?_
    go_wp2_with fail
    refine ret_frac rfl rfl (blk4_set BB.out) rfl ⟨_, rfl, ?_, ext4 (XC.out.trans XF.out) (by omega) _ _ _ _⟩
    rw [← mul_new q r]
    exact HR.out.grown (noInts4 BB.out) (grown4 _ _ _ _ _ _)
set_option maxRecDepth 100000 in
set_option maxHeartbeats 3200000 in
theorem fracAdd_any (u v : Value) (q r : Rat) (w : World) (hu : FracV w u q) (hv : FracV w v r) (h1 : Sz q 1000000000000) (h2 : Sz r 1000000000000) :
    Calls Tryz.prog 90 #[u, v] w (RetFrac w (q + r)) := by
  have Hu := Lib.hid hu
  obtain ⟨a, n, c, a', n', c', rfl, _, _⟩ := hu
  obtain ⟨p, hp⟩ : ∃ p, p = decide (q.num < 0) := ⟨_, rfl⟩
  rw [← hp] at Hu ⊢
  clear hp
  have Hv := Lib.hid hv
  obtain ⟨a2, n2, c2, a2', n2', c2', rfl, _, _⟩ := hv
  obtain ⟨p2, hp2⟩ : ∃ p2, p2 = decide (r.num < 0) := ⟨_, rfl⟩
  rw [← hp2] at Hv ⊢
  clear hp2
  have H1 := Lib.hid h1
  have H2 := Lib.hid h2
  clear h1 h2
  have HW1 := Lib.hid (fun (W' : World) (x : Ext w W') => fracWhole_any _ q W' (Hu.out.ext x) (Nat.le_trans H1.out.2 (by omega)))
  have HW2 := Lib.hid (fun (W' : World) (x : Ext w W') => fracWhole_any _ r W' (Hv.out.ext x) (Nat.le_trans H2.out.2 (by omega)))
  go_enter Tryz.func90, Tryz.ntmps90
  go_wp2_with fail
  have hb := box3 w (.cells #[.bool p, .slice a n c, .bool false, .slice a' n' c'] 109) (.cells #[.bool p2, .slice a2 n2 c2, .bool false, .slice a2' n2' c2'] 109) (.cells #[.bool false, .slice none 0 0, .bool false, .slice none 0 0] 109)
  generalize ((w.alloc (.cells #[.bool p, .slice a n c, .bool false, .slice a' n' c'] 109)).alloc (.cells #[.bool p2, .slice a2 n2 c2, .bool false, .slice a2' n2' c2'] 109)).alloc (.cells #[.bool false, .slice none 0 0, .bool false, .slice none 0 0] 109) = W at *
  obtain ⟨x0, b0, b1, b2⟩ := hb
  have X0 := Lib.hid x0
  have B0 := Lib.hid b0
  have B1 := Lib.hid b1
  have B2 := Lib.hid b2
  clear x0 b0 b1 b2
  refine (HW1.out W X0.out).mono ?_
  rintro e W1 ⟨rfl, hx1⟩
  have X1 := Lib.hid hx1
  have A0 := Lib.hid (hx1.block B0.out)
  have A1 := Lib.hid (hx1.block B1.out)
  have A2 := Lib.hid (hx1.block B2.out)
  have c0 := cell4_0 A1.out
  have c1 := cell4_1 A1.out
  have c2' := cell4_2 A1.out
  have c3 := cell4_3 A1.out
  clear hx1
  by_cases hq1 : q.den = 1
  · rw [show decide (q.den = 1) = true by simp [hq1]]
    have HQ1 := Lib.hid hq1
    clear hq1
    go_wp2_with fail
    refine (HW2.out W1 (X0.out.trans X1.out)).mono ?_
    rintro e Wc ⟨rfl, hx2⟩
    have XC := Lib.hid ((X0.out.trans X1.out).trans hx2)
    have C0 := Lib.hid (hx2.block A0.out)
    have C1 := Lib.hid (hx2.block A1.out)
    have C2 := Lib.hid (hx2.block A2.out)
    clear hx2 c0 c1 c2' c3 A0 A1 A2
    by_cases hr1 : r.den = 1
    · rw [show decide (r.den = 1) = true by simp [hr1]]
      have HR1 := Lib.hid hr1
      clear hr1
      have e0 := cell4_0 C0.out
      have e1 := cell4_1 C0.out
      have e2 := cell4_0 C1.out
      have e3 := cell4_1 C1.out
      go_wp2_with fail
      refine (numAdd_any _ _ q.num r.num Wc (Hu.out.num.ext XC.out) (Hv.out.num.ext XC.out) (Nat.le_trans H1.out.1 (by omega)) (Nat.le_trans H2.out.1 (by omega))).mono ?_
      rintro e w1 ⟨v1, rfl, hv1, hx1⟩
      have HV1 := Lib.hid hv1
      have Y1 := Lib.hid hx1
      clear hv1 hx1
      go_wp2_with fail
      refine (fracOfNum_any _ _ _ HV1.out).mono ?_
      rintro e w2 ⟨v2, rfl, hv2, hx2⟩
      obtain ⟨b3, a3, n3, c3, b3', a3', n3', c3', rfl, hr3⟩ := hv2.opn
      have HR := Lib.hid hr3
      have XF := Lib.hid (Y1.out.trans hx2)
      have BB := Lib.hid (XF.out.block C2.out)
      have d0 := cell4_0 BB.out
      have d1 := cell4_1 BB.out
      have d2 := cell4_2 BB.out
      have d3 := cell4_3 BB.out
      have f0 := frozen_of_row _ _ 0 _ _ BB.out
      have f1 := frozen_of_row _ _ 1 _ _ BB.out
      have f2 := frozen_of_row _ _ 2 _ _ BB.out
      have f3 := frozen_of_row _ _ 3 _ _ BB.out
      clear hv2 hx2 hr3 e0 e1 e2 e3
      go_wp2_with fail
      refine ret_frac rfl rfl (blk4_set BB.out) rfl ⟨_, rfl, ?_, ext4 (XC.out.trans XF.out) (by omega) _ _ _ _⟩
      rw [← add_whole HQ1.out HR1.out]
      exact HR.out.grown (noInts4 BB.out) (grown4 _ _ _ _ _ _)
    · rw [show decide (r.den = 1) = false by simp [hr1]]
      clear hr1
      go_wp2_with fail
      have S0 : Wc.drew.heap[w.heap.size]? = some (.cells #[.bool p, .slice a n c, .bool false, .slice a' n' c'] 109 (0, 0)) ∧ Wc.drew.heap[w.heap.size + 1]? = some (.cells #[.bool p2, .slice a2 n2 c2, .bool false, .slice a2' n2' c2'] 109 (0, 0)) := ⟨C0.out, C1.out⟩
      have E0 := Lib.hid ((Ext.refl Wc).drew)
      refine wp_region_plan [(0, true), (1, true), (2, true), (3, true), (5, true), (6, true), (7, true), (8, true), (11, true), (12, true), (13, true), (14, true), (4, false), (9, false), (10, false), (15, false), (16, false), (17, false)] (fun w' => w'.heap[w.heap.size]? = some (.cells #[.bool p, .slice a n c, .bool false, .slice a' n' c'] 109 (0, 0)) ∧ w'.heap[w.heap.size + 1]? = some (.cells #[.bool p2, .slice a2 n2 c2, .bool false, .slice a2' n2' c2'] 109 (0, 0))) (by kernel_rfl) rfl (by kernel_rfl) (by kernel_rfl) (S0) ?_
      refine plan_read 17 (.pointer (some ⟨w.heap.size, 0, none⟩)) rfl rfl rfl (fun W' _ => by kernel_rfl) ?_
      simp only [List.setIfInBounds_toArray, List.set_cons_zero, List.set_cons_succ]
      refine plan_read 18 (Value.agg #[Value.bool p, Value.slice a n c]) rfl rfl rfl (fun W' hS => exec_load_num _ _ _ rfl _ _ rfl W' _ _ (cell4_0 hS.1) (cell4_1 hS.1)) ?_
      simp only [List.setIfInBounds_toArray, List.set_cons_zero, List.set_cons_succ]
      refine plan_read 19 (.pointer (some ⟨w.heap.size + 1, 2, none⟩)) rfl rfl rfl (fun W' _ => by kernel_rfl) ?_
      simp only [List.setIfInBounds_toArray, List.set_cons_zero, List.set_cons_succ]
      refine plan_read 20 (Value.agg #[Value.bool false, Value.slice a2' n2' c2']) rfl rfl rfl (fun W' hS => exec_load_num _ _ _ rfl _ _ rfl W' _ _ (cell4_2 hS.2) (cell4_3 hS.2)) ?_
      simp only [List.setIfInBounds_toArray, List.set_cons_zero, List.set_cons_succ]
      refine plan_read 22 (.pointer (some ⟨w.heap.size + 1, 0, none⟩)) rfl rfl rfl (fun W' _ => by kernel_rfl) ?_
      simp only [List.setIfInBounds_toArray, List.set_cons_zero, List.set_cons_succ]
      refine plan_read 23 (Value.agg #[Value.bool p2, Value.slice a2 n2 c2]) rfl rfl rfl (fun W' hS => exec_load_num _ _ _ rfl _ _ rfl W' _ _ (cell4_0 hS.2) (cell4_1 hS.2)) ?_
      simp only [List.setIfInBounds_toArray, List.set_cons_zero, List.set_cons_succ]
      refine plan_read 24 (.pointer (some ⟨w.heap.size, 2, none⟩)) rfl rfl rfl (fun W' _ => by kernel_rfl) ?_
      simp only [List.setIfInBounds_toArray, List.set_cons_zero, List.set_cons_succ]
      refine plan_read 25 (Value.agg #[Value.bool false, Value.slice a' n' c']) rfl rfl rfl (fun W' hS => exec_load_num _ _ _ rfl _ _ rfl W' _ _ (cell4_2 hS.1) (cell4_3 hS.1)) ?_
      simp only [List.setIfInBounds_toArray, List.set_cons_zero, List.set_cons_succ]
      refine plan_read 28 (.pointer (some ⟨w.heap.size, 2, none⟩)) rfl rfl rfl (fun W' _ => by kernel_rfl) ?_
      simp only [List.setIfInBounds_toArray, List.set_cons_zero, List.set_cons_succ]
      refine plan_read 29 (Value.agg #[Value.bool false, Value.slice a' n' c']) rfl rfl rfl (fun W' hS => exec_load_num _ _ _ rfl _ _ rfl W' _ _ (cell4_2 hS.1) (cell4_3 hS.1)) ?_
      simp only [List.setIfInBounds_toArray, List.set_cons_zero, List.set_cons_succ]
      refine plan_read 30 (.pointer (some ⟨w.heap.size + 1, 2, none⟩)) rfl rfl rfl (fun W' _ => by kernel_rfl) ?_
      simp only [List.setIfInBounds_toArray, List.set_cons_zero, List.set_cons_succ]
      refine plan_read 31 (Value.agg #[Value.bool false, Value.slice a2' n2' c2']) rfl rfl rfl (fun W' hS => exec_load_num _ _ _ rfl _ _ rfl W' _ _ (cell4_2 hS.2) (cell4_3 hS.2)) ?_
      simp only [List.setIfInBounds_toArray, List.set_cons_zero, List.set_cons_succ]
      refine plan_op rfl rfl (fun K hK => ?_)
      have HK := Lib.hid hK
      clear hK
      go_simp
      refine (numMul_any _ _ q.num (r.den : Int) _ (Hu.out.num.ext (XC.out.trans (E0).out)) (Hv.out.den.ext (XC.out.trans (E0).out)) (Nat.le_trans H1.out.1 (by omega)) (by rw [Int.natAbs_natCast]; exact Nat.le_trans H2.out.2 (by omega))).mono ?_
      rintro e w1 ⟨v1, rfl, hv1, hx1⟩
      have S1 := And.intro (hx1.block S0.1) (hx1.block S0.2)
      have HV1 := Lib.hid hv1
      have HX1 := Lib.hid hx1
      have E1 := Lib.hid (E0.out.trans hx1)
      clear hv1 hx1 S0
      refine HK.out _ _ S1 ?_
      clear HK K
      refine plan_op rfl rfl (fun K hK => ?_)
      have HK := Lib.hid hK
      clear hK
      go_simp
      refine (numMul_any _ _ r.num (q.den : Int) _ (Hv.out.num.ext (XC.out.trans (E1).out)) (Hu.out.den.ext (XC.out.trans (E1).out)) (Nat.le_trans H2.out.1 (by omega)) (by rw [Int.natAbs_natCast]; exact Nat.le_trans H1.out.2 (by omega))).mono ?_
      rintro e w2 ⟨v2, rfl, hv2, hx2⟩
      have S2 := And.intro (hx2.block S1.1) (hx2.block S1.2)
      have HV2 := Lib.hid hv2
      have HX2 := Lib.hid hx2
      have E2 := Lib.hid (E1.out.trans hx2)
      clear hv2 hx2 S1
      refine HK.out _ _ S2 ?_
      clear HK K
      refine plan_op rfl rfl (fun K hK => ?_)
      have HK := Lib.hid hK
      clear hK
      go_simp
      refine (numAdd_any _ _ _ _ _ (HV1.out.ext HX2.out) HV2.out (by have := nl_mulZ (k := 1000000000000) (H1.out.1) (by rw [Int.natAbs_natCast]; exact H2.out.2); omega) (by have := nl_mulZ (k := 1000000000000) (H2.out.1) (by rw [Int.natAbs_natCast]; exact H1.out.2); omega)).mono ?_
      rintro e w3 ⟨v3, rfl, hv3, hx3⟩
      have S3 := And.intro (hx3.block S2.1) (hx3.block S2.2)
      have HV3 := Lib.hid hv3
      have HX3 := Lib.hid hx3
      have E3 := Lib.hid (E2.out.trans hx3)
      clear hv3 hx3 S2
      refine HK.out _ _ S3 ?_
      clear HK K
      refine plan_op rfl rfl (fun K hK => ?_)
      have HK := Lib.hid hK
      clear hK
      go_simp
      refine (numMul_any _ _ (q.den : Int) (r.den : Int) _ (Hu.out.den.ext (XC.out.trans (E3).out)) (Hv.out.den.ext (XC.out.trans (E3).out)) (by rw [Int.natAbs_natCast]; exact Nat.le_trans H1.out.2 (by omega)) (by rw [Int.natAbs_natCast]; exact Nat.le_trans H2.out.2 (by omega))).mono ?_
      rintro e w4 ⟨v4, rfl, hv4, hx4⟩
      have S4 := And.intro (hx4.block S3.1) (hx4.block S3.2)
      have HV4 := Lib.hid hv4
      have HX4 := Lib.hid hx4
      have E4 := Lib.hid (E3.out.trans hx4)
      clear hv4 hx4 S3
      refine HK.out _ _ S4 ?_
      clear HK K
      refine plan_op rfl rfl (fun K hK => ?_)
      have HK := Lib.hid hK
      clear hK
      go_simp
      refine (fracNew_any _ _ _ _ _ (HV3.out.ext HX4.out) HV4.out (by have e1 := nl_mulZ (k := 1000000000000) (H1.out.1) (by rw [Int.natAbs_natCast]; exact H2.out.2); have e2 := nl_mulZ (k := 1000000000000) (H2.out.1) (by rw [Int.natAbs_natCast]; exact H1.out.2); have e3 := nl_addZ e1 e2; omega) (by have := nl_mulZ (k := 1000000000000) (by rw [Int.natAbs_natCast]; exact H1.out.2) (by rw [Int.natAbs_natCast]; exact H2.out.2); omega) (den_ne q r)).mono ?_
      rintro e w5 ⟨v5, rfl, hv5, hx5⟩
      obtain ⟨b3, a3, n3, c3, b3', a3', n3', c3', rfl, hr3⟩ := hv5.opn
      have SL := And.intro (hx5.block S4.1) (hx5.block S4.2)
      have HR := Lib.hid hr3
      have XF := Lib.hid (E4.out.trans hx5)
      clear hv5 hr3 hx5 S4
      refine HK.out _ _ SL ?_
      have BB := Lib.hid (XF.out.block C2.out)
      have d0 := cell4_0 BB.out
      have d1 := cell4_1 BB.out
      have d2 := cell4_2 BB.out
      have d3 := cell4_3 BB.out
      have f0 := frozen_of_row _ _ 0 _ _ BB.out
      have f1 := frozen_of_row _ _ 1 _ _ BB.out
      have f2 := frozen_of_row _ _ 2 _ _ BB.out
      have f3 := frozen_of_row _ _ 3 _ _ BB.out
      clear HK K
      refine plan_op rfl rfl (fun K hK => ?_)
      have HK := Lib.hid hK
      clear hK
      go_simp
      refine HK.out _ _ ⟨block_of (grown4 _ _ _ _ _ _) SL.1 (by omega), block_of (grown4 _ _ _ _ _ _) SL.2 (by omega)⟩ ?_
      clear HK K
      refine plan_nil ?_
      go_wp2_with fail
      refine ret_frac rfl rfl (blk4_set BB.out) rfl ⟨_, rfl, ?_, ext4 (XC.out.trans XF.out) (by omega) _ _ _ _⟩
      rw [← add_new q r]
      exact HR.out.grown (noInts4 BB.out) (grown4 _ _ _ _ _ _)
  · rw [show decide (q.den = 1) = false by simp [hq1]]
    clear hq1 c0 c1 c2' c3
    have C0 := A0
    have C1 := A1
    have C2 := A2
    clear A0 A1 A2
    obtain ⟨Wc, hWc⟩ : ∃ Wc : World, Wc = W1 := ⟨_, rfl⟩
    subst hWc
    have XC := Lib.hid (X0.out.trans X1.out)
    clear X1
    go_wp2_with fail
    have S0 : Wc.drew.heap[w.heap.size]? = some (.cells #[.bool p, .slice a n c, .bool false, .slice a' n' c'] 109 (0, 0)) ∧ Wc.drew.heap[w.heap.size + 1]? = some (.cells #[.bool p2, .slice a2 n2 c2, .bool false, .slice a2' n2' c2'] 109 (0, 0)) := ⟨C0.out, C1.out⟩
    have E0 := Lib.hid ((Ext.refl Wc).drew)
    refine wp_region_plan [(0, true), (1, true), (2, true), (3, true), (5, true), (6, true), (7, true), (8, true), (11, true), (12, true), (13, true), (14, true), (4, false), (9, false), (10, false), (15, false), (16, false), (17, false)] (fun w' => w'.heap[w.heap.size]? = some (.cells #[.bool p, .slice a n c, .bool false, .slice a' n' c'] 109 (0, 0)) ∧ w'.heap[w.heap.size + 1]? = some (.cells #[.bool p2, .slice a2 n2 c2, .bool false, .slice a2' n2' c2'] 109 (0, 0))) (by kernel_rfl) rfl (by kernel_rfl) (by kernel_rfl) (S0) ?_
    refine plan_read 17 (.pointer (some ⟨w.heap.size, 0, none⟩)) rfl rfl rfl (fun W' _ => by kernel_rfl) ?_
    simp only [List.setIfInBounds_toArray, List.set_cons_zero, List.set_cons_succ]
    refine plan_read 18 (Value.agg #[Value.bool p, Value.slice a n c]) rfl rfl rfl (fun W' hS => exec_load_num _ _ _ rfl _ _ rfl W' _ _ (cell4_0 hS.1) (cell4_1 hS.1)) ?_
    simp only [List.setIfInBounds_toArray, List.set_cons_zero, List.set_cons_succ]
    refine plan_read 19 (.pointer (some ⟨w.heap.size + 1, 2, none⟩)) rfl rfl rfl (fun W' _ => by kernel_rfl) ?_
    simp only [List.setIfInBounds_toArray, List.set_cons_zero, List.set_cons_succ]
    refine plan_read 20 (Value.agg #[Value.bool false, Value.slice a2' n2' c2']) rfl rfl rfl (fun W' hS => exec_load_num _ _ _ rfl _ _ rfl W' _ _ (cell4_2 hS.2) (cell4_3 hS.2)) ?_
    simp only [List.setIfInBounds_toArray, List.set_cons_zero, List.set_cons_succ]
    refine plan_read 22 (.pointer (some ⟨w.heap.size + 1, 0, none⟩)) rfl rfl rfl (fun W' _ => by kernel_rfl) ?_
    simp only [List.setIfInBounds_toArray, List.set_cons_zero, List.set_cons_succ]
    refine plan_read 23 (Value.agg #[Value.bool p2, Value.slice a2 n2 c2]) rfl rfl rfl (fun W' hS => exec_load_num _ _ _ rfl _ _ rfl W' _ _ (cell4_0 hS.2) (cell4_1 hS.2)) ?_
    simp only [List.setIfInBounds_toArray, List.set_cons_zero, List.set_cons_succ]
    refine plan_read 24 (.pointer (some ⟨w.heap.size, 2, none⟩)) rfl rfl rfl (fun W' _ => by kernel_rfl) ?_
    simp only [List.setIfInBounds_toArray, List.set_cons_zero, List.set_cons_succ]
    refine plan_read 25 (Value.agg #[Value.bool false, Value.slice a' n' c']) rfl rfl rfl (fun W' hS => exec_load_num _ _ _ rfl _ _ rfl W' _ _ (cell4_2 hS.1) (cell4_3 hS.1)) ?_
    simp only [List.setIfInBounds_toArray, List.set_cons_zero, List.set_cons_succ]
    refine plan_read 28 (.pointer (some ⟨w.heap.size, 2, none⟩)) rfl rfl rfl (fun W' _ => by kernel_rfl) ?_
    simp only [List.setIfInBounds_toArray, List.set_cons_zero, List.set_cons_succ]
    refine plan_read 29 (Value.agg #[Value.bool false, Value.slice a' n' c']) rfl rfl rfl (fun W' hS => exec_load_num _ _ _ rfl _ _ rfl W' _ _ (cell4_2 hS.1) (cell4_3 hS.1)) ?_
    simp only [List.setIfInBounds_toArray, List.set_cons_zero, List.set_cons_succ]
    refine plan_read 30 (.pointer (some ⟨w.heap.size + 1, 2, none⟩)) rfl rfl rfl (fun W' _ => by kernel_rfl) ?_
    simp only [List.setIfInBounds_toArray, List.set_cons_zero, List.set_cons_succ]
    refine plan_read 31 (Value.agg #[Value.bool false, Value.slice a2' n2' c2']) rfl rfl rfl (fun W' hS => exec_load_num _ _ _ rfl _ _ rfl W' _ _ (cell4_2 hS.2) (cell4_3 hS.2)) ?_
    simp only [List.setIfInBounds_toArray, List.set_cons_zero, List.set_cons_succ]
    refine plan_op rfl rfl (fun K hK => ?_)
    have HK := Lib.hid hK
    clear hK
    go_simp
    refine (numMul_any _ _ q.num (r.den : Int) _ (Hu.out.num.ext (XC.out.trans (E0).out)) (Hv.out.den.ext (XC.out.trans (E0).out)) (Nat.le_trans H1.out.1 (by omega)) (by rw [Int.natAbs_natCast]; exact Nat.le_trans H2.out.2 (by omega))).mono ?_
    rintro e w1 ⟨v1, rfl, hv1, hx1⟩
    have S1 := And.intro (hx1.block S0.1) (hx1.block S0.2)
    have HV1 := Lib.hid hv1
    have HX1 := Lib.hid hx1
    have E1 := Lib.hid (E0.out.trans hx1)
    clear hv1 hx1 S0
    refine HK.out _ _ S1 ?_
    clear HK K
    refine plan_op rfl rfl (fun K hK => ?_)
    have HK := Lib.hid hK
    clear hK
    go_simp
    refine (numMul_any _ _ r.num (q.den : Int) _ (Hv.out.num.ext (XC.out.trans (E1).out)) (Hu.out.den.ext (XC.out.trans (E1).out)) (Nat.le_trans H2.out.1 (by omega)) (by rw [Int.natAbs_natCast]; exact Nat.le_trans H1.out.2 (by omega))).mono ?_
    rintro e w2 ⟨v2, rfl, hv2, hx2⟩
    have S2 := And.intro (hx2.block S1.1) (hx2.block S1.2)
    have HV2 := Lib.hid hv2
    have HX2 := Lib.hid hx2
    have E2 := Lib.hid (E1.out.trans hx2)
    clear hv2 hx2 S1
    refine HK.out _ _ S2 ?_
    clear HK K
    refine plan_op rfl rfl (fun K hK => ?_)
    have HK := Lib.hid hK
    clear hK
    go_simp
    refine (numAdd_any _ _ _ _ _ (HV1.out.ext HX2.out) HV2.out (by have := nl_mulZ (k := 1000000000000) (H1.out.1) (by rw [Int.natAbs_natCast]; exact H2.out.2); omega) (by have := nl_mulZ (k := 1000000000000) (H2.out.1) (by rw [Int.natAbs_natCast]; exact H1.out.2); omega)).mono ?_
    rintro e w3 ⟨v3, rfl, hv3, hx3⟩
    have S3 := And.intro (hx3.block S2.1) (hx3.block S2.2)
    have HV3 := Lib.hid hv3
    have HX3 := Lib.hid hx3
    have E3 := Lib.hid (E2.out.trans hx3)
    clear hv3 hx3 S2
    refine HK.out _ _ S3 ?_
    clear HK K
    refine plan_op rfl rfl (fun K hK => ?_)
    have HK := Lib.hid hK
    clear hK
    go_simp
    refine (numMul_any _ _ (q.den : Int) (r.den : Int) _ (Hu.out.den.ext (XC.out.trans (E3).out)) (Hv.out.den.ext (XC.out.trans (E3).out)) (by rw [Int.natAbs_natCast]; exact Nat.le_trans H1.out.2 (by omega)) (by rw [Int.natAbs_natCast]; exact Nat.le_trans H2.out.2 (by omega))).mono ?_
    rintro e w4 ⟨v4, rfl, hv4, hx4⟩
    have S4 := And.intro (hx4.block S3.1) (hx4.block S3.2)
    have HV4 := Lib.hid hv4
    have HX4 := Lib.hid hx4
    have E4 := Lib.hid (E3.out.trans hx4)
    clear hv4 hx4 S3
    refine HK.out _ _ S4 ?_
    clear HK K
    refine plan_op rfl rfl (fun K hK => ?_)
    have HK := Lib.hid hK
    clear hK
    go_simp
    refine (fracNew_any _ _ _ _ _ (HV3.out.ext HX4.out) HV4.out (by have e1 := nl_mulZ (k := 1000000000000) (H1.out.1) (by rw [Int.natAbs_natCast]; exact H2.out.2); have e2 := nl_mulZ (k := 1000000000000) (H2.out.1) (by rw [Int.natAbs_natCast]; exact H1.out.2); have e3 := nl_addZ e1 e2; omega) (by have := nl_mulZ (k := 1000000000000) (by rw [Int.natAbs_natCast]; exact H1.out.2) (by rw [Int.natAbs_natCast]; exact H2.out.2); omega) (den_ne q r)).mono ?_
    rintro e w5 ⟨v5, rfl, hv5, hx5⟩
    obtain ⟨b3, a3, n3, c3, b3', a3', n3', c3', rfl, hr3⟩ := hv5.opn
    have SL := And.intro (hx5.block S4.1) (hx5.block S4.2)
    have HR := Lib.hid hr3
    have XF := Lib.hid (E4.out.trans hx5)
    clear hv5 hr3 hx5 S4
    refine HK.out _ _ SL ?_
    have BB := Lib.hid (XF.out.block C2.out)
    have d0 := cell4_0 BB.out
    have d1 := cell4_1 BB.out
    have d2 := cell4_2 BB.out
    have d3 := cell4_3 BB.out
    have f0 := frozen_of_row _ _ 0 _ _ BB.out
    have f1 := frozen_of_row _ _ 1 _ _ BB.out
    have f2 := frozen_of_row _ _ 2 _ _ BB.out
    have f3 := frozen_of_row _ _ 3 _ _ BB.out
    clear HK K
    refine plan_op rfl rfl (fun K hK => ?_)
    have HK := Lib.hid hK
    clear hK
    go_simp
    refine HK.out _ _ ⟨block_of (grown4 _ _ _ _ _ _) SL.1 (by omega), block_of (grown4 _ _ _ _ _ _) SL.2 (by omega)⟩ ?_
    clear HK K
    refine plan_nil ?_
    go_wp2_with fail
    refine ret_frac rfl rfl (blk4_set BB.out) rfl ⟨_, rfl, ?_, ext4 (XC.out.trans XF.out) (by omega) _ _ _ _⟩
    rw [← add_new q r]
    exact HR.out.grown (noInts4 BB.out) (grown4 _ _ _ _ _ _)
end Go.Proofs.YtpdboaedoimahaaGreatDoor
end
section
namespace Go.Proofs.YtpdboaedoimahaaGreatDoor
open Go.RowKit
end Go.Proofs.YtpdboaedoimahaaGreatDoor
end
section
set_option linter.unusedSectionVars false
set_option linter.unusedSimpArgs false
namespace Go.Proofs.YtpdboaedoimahaaGreatDoor
open Go.RowKit
instance : Mixed Tryz.prog := ⟨by kernel_rfl⟩
def CellP (u : PH) (b off : Nat) (x : Value) : Prop := ∃ cs t fr, u b = some (.cells cs t fr) ∧ cs[off]? = some x
theorem CellP.mono {u u' : PH} {b off : Nat} {x : Value} (h : CellP u b off x) (hl : PH.le u u') : CellP u' b off x := by
  obtain ⟨cs, t, fr, h1, h2⟩ := h; exact ⟨cs, t, fr, hl _ _ h1, h2⟩
theorem CellP.cell {u : PH} {w : World} {b off : Nat} {x : Value} (h : CellP u b off x) (hp : Part u w) : w.cell? ⟨b, off, none⟩ = some x := by
  obtain ⟨cs, t, fr, h1, h2⟩ := h
  simp [World.cell?, hp _ _ h1, h2]
def ElP (u : PH) (b off : Nat) (e : Value) : Prop := ∀ (i : Nat) (x : Value), e.cells[i]? = some x → CellP u b (off + i) x
theorem ElP.mono {u u' : PH} {b off : Nat} {e : Value} (h : ElP u b off e) (hl : PH.le u u') : ElP u' b off e := fun i x hi => (h i x hi).mono hl
def elOK (k : Option Nat) (e : Value) : Bool :=
  match k with
  | some n => match e with
    | .agg cs => Nat.beq n cs.size
    | _ => false
  | none => match e with | .agg _ => false | _ => true
def RowP (u : PH) (a : Option Addr) (cs : List Value) : Prop := ∀ j, j < cs.length → ∃ b off, a = some ⟨b, off, none⟩ ∧ CellP u b (off + j) (cs.getD j (.bool false))
def NatP (u : PH) (v : Value) (n : Nat) : Prop := ∃ a cap, v = .slice a (limbs n).length cap ∧ (limbs n).length ≤ cap ∧ RowP u a (u64s (limbs n))
def NumP (u : PH) (v : Value) (z : Int) : Prop := ∃ a n c, v = .agg #[.bool (decide (z < 0)), .slice a n c] ∧ NatP u (.slice a n c) z.natAbs
def FracP (u : PH) (v : Value) (q : Rat) : Prop :=
  ∃ a n c a' n' c', v = .agg #[.bool (decide (q.num < 0)), .slice a n c, .bool false, .slice a' n' c'] ∧ NatP u (.slice a n c) q.num.natAbs ∧ NatP u (.slice a' n' c') q.den
theorem NatP.mono {u u' : PH} {v : Value} {n : Nat} (h : NatP u v n) (hl : PH.le u u') : NatP u' v n := by
  obtain ⟨a, cap, h1, h2, h3⟩ := h
  exact ⟨a, cap, h1, h2, fun j hj => by obtain ⟨b, off, e1, e2⟩ := h3 j hj; exact ⟨b, off, e1, e2.mono hl⟩⟩
theorem NumP.mono {u u' : PH} {v : Value} {z : Int} (h : NumP u v z) (hl : PH.le u u') : NumP u' v z := by
  obtain ⟨a, n, c, h1, h2⟩ := h; exact ⟨a, n, c, h1, h2.mono hl⟩
theorem FracP.mono {u u' : PH} {v : Value} {q : Rat} (h : FracP u v q) (hl : PH.le u u') : FracP u' v q := by
  obtain ⟨a, n, c, a', n', c', h1, h2, h3⟩ := h; exact ⟨a, n, c, a', n', c', h1, h2.mono hl, h3.mono hl⟩
theorem NatP.toW {u : PH} {w : World} {v : Value} {n : Nat} (h : NatP u v n) (hp : Part u w) : NatV w v n := by
  obtain ⟨a, cap, h1, h2, h3⟩ := h
  exact ⟨a, cap, h1, h2, fun j hj => by obtain ⟨b, off, e1, e2⟩ := h3 j hj; exact ⟨b, off, e1, e2.cell hp⟩⟩
theorem NumP.toW {u : PH} {w : World} {v : Value} {z : Int} (h : NumP u v z) (hp : Part u w) : NumV w v z := by
  obtain ⟨a, n, c, h1, h2⟩ := h; exact ⟨a, n, c, h1, h2.toW hp⟩
theorem FracP.toW {u : PH} {w : World} {v : Value} {q : Rat} (h : FracP u v q) (hp : Part u w) : FracV w v q := by
  obtain ⟨a, n, c, a', n', c', h1, h2, h3⟩ := h; exact ⟨a, n, c, a', n', c', h1, h2.toW hp, h3.toW hp⟩
theorem NatP.ofW {u : PH} {w : World} {v : Value} {n : Nat} (h : NatV w v n) (hc : Clean u w) : NatP u v n := by
  obtain ⟨a, cap, h1, h2, h3⟩ := h
  refine ⟨a, cap, h1, h2, fun j hj => ?_⟩
  obtain ⟨b, off, e1, e2⟩ := h3 j hj
  refine ⟨b, off, e1, ?_⟩
  have hj' : j < (limbs n).length := by simpa using hj
  have hx : (u64s (limbs n)).getD j (.bool false) = .int .u64 ((limbs n).getD j 0 : Nat) := by simp [u64s, hj']
  rw [hx] at e2 ⊢
  unfold World.cell? at e2
  simp only at e2
  split at e2
  · rename_i cs t fr hb
    simp at e2
    exact ⟨cs, t, fr, hc b cs t fr _ _ hb e2, e2⟩
  · cases e2
theorem NumP.ofW {u : PH} {w : World} {v : Value} {z : Int} (h : NumV w v z) (hc : Clean u w) : NumP u v z := by
  obtain ⟨a, n, c, h1, h2⟩ := h; exact ⟨a, n, c, h1, NatP.ofW h2 hc⟩
theorem FracP.ofW {u : PH} {w : World} {v : Value} {q : Rat} (h : FracV w v q) (hc : Clean u w) : FracP u v q := by
  obtain ⟨a, n, c, a', n', c', h1, h2, h3⟩ := h; exact ⟨a, n, c, a', n', c', h1, NatP.ofW h2 hc, NatP.ofW h3 hc⟩
theorem NumP.opn {u : PH} {v : Value} {z : Int} (h : NumP u v z) : ∃ b a n c, v = .agg #[.bool b, .slice a n c] := by
  obtain ⟨a, n, c, rfl, _⟩ := h; exact ⟨_, a, n, c, rfl⟩
theorem FracP.opn {u : PH} {v : Value} {q : Rat} (h : FracP u v q) : ∃ b a n c b' a' n' c', v = .agg #[.bool b, .slice a n c, .bool b', .slice a' n' c'] := by
  obtain ⟨a, n, c, a', n', c', rfl, _⟩ := h; exact ⟨_, a, n, c, _, a', n', c', rfl⟩
theorem FracP.num {u : PH} {b b' : Bool} {a a' : Option Addr} {n n' c c' : Nat} {q : Rat} (h : FracP u (.agg #[.bool b, .slice a n c, .bool b', .slice a' n' c']) q) : NumP u (.agg #[.bool b, .slice a n c]) q.num := by
  obtain ⟨_, _, _, _, _, _, h1, h2, h3⟩ := h
  simp only [Value.agg.injEq, Array.mk.injEq, List.cons.injEq, Value.bool.injEq, Value.slice.injEq, and_true] at h1
  obtain ⟨rfl, ⟨rfl, rfl, rfl⟩, rfl, rfl, rfl, rfl⟩ := h1
  exact ⟨_, _, _, rfl, h2⟩
theorem FracP.den {u : PH} {b b' : Bool} {a a' : Option Addr} {n n' c c' : Nat} {q : Rat} (h : FracP u (.agg #[.bool b, .slice a n c, .bool b', .slice a' n' c']) q) : NumP u (.agg #[.bool b', .slice a' n' c']) q.den := by
  obtain ⟨_, _, _, _, _, _, h1, h2, h3⟩ := h
  simp only [Value.agg.injEq, Array.mk.injEq, List.cons.injEq, Value.bool.injEq, Value.slice.injEq, and_true] at h1
  obtain ⟨rfl, ⟨rfl, rfl, rfl⟩, rfl, rfl, rfl, rfl⟩ := h1
  refine ⟨_, _, _, ?_, by rw [Int.natAbs_natCast]; exact h3⟩
  rw [show decide (((q.den : Nat) : Int) < 0) = false by simp only [decide_eq_false_iff_not]; omega]
theorem Fn0.ofW {P : Program} {f : FuncId} {args : List Value} {u : PH} {R : Value → PH → Prop} (Q : Value → World → Prop) (h : ∀ w, Part u w → Calls P f args.toArray w fun e w' => ∃ v, e = .returned v ∧ Q v w' ∧ Ext w w')
    (hq : ∀ v w' u', Q v w' → Part u' w' → Clean u' w' → PH.le u u' → R v u') : Fn0 P f args u R := by
  intro w hg
  refine Calls.mono (h w hg.pu) fun e w' he => ?_
  obtain ⟨v, e1, e2, e3⟩ := he
  have hsz : w.heap.size ≤ w'.heap.size := e3.size
  have hold : ∀ g, g < w.heap.size → w'.heap[g]? = w.heap[g]? := fun g hg => Below.block e3 g hg
  have g1 : Part (fun g => if g < w.heap.size then u g else w'.heap[g]?) w' := by
    intro g o hgo
    simp only at hgo
    split at hgo
    · rename_i hlt; rw [hold g hlt]; exact hg.pu g o hgo
    · exact hgo
  have g2 : Clean (fun g => if g < w.heap.size then u g else w'.heap[g]?) w' := by
    intro g cs t fr j z hgo hj
    simp only
    split
    · rename_i hlt; rw [hold g hlt] at hgo; exact hg.cl g cs t fr j z hgo hj
    · exact hgo
  have g3 : PH.le u (fun g => if g < w.heap.size then u g else w'.heap[g]?) := fun g o hgo => by simp only; rw [if_pos (hg.pu.lt hgo)]; exact hgo
  refine ⟨v, _, PH.mt, e1, ⟨g1, Part.mt _, fun _ => .inr rfl, g2⟩, ⟨hsz, fun g hg _ => hold g hg, fun g hg => by simp only; rw [if_pos hg], fun _ _ h => h, ⟨e3.os, e3.output⟩, fun f => f.elim⟩, rfl, hq v w' _ e2 g1 g2 g3⟩
section rules
variable [Flag] {P : Program} [Mixed P] {fn : Func} {Post : Spec} {st : List KI × S} {u m : PH}
theorem view_load {env : Operand → Value} {o : Op} {k : Option (Option Nat)} {x : Value} (h : viewOp P env o = .load k x) : ∃ t X, o = .load t X ∧ env X = x ∧ ldKind P t = k := by
  cases o <;> simp only [viewOp] at h <;> try cases h
  any_goals ((repeat' split at h) <;> cases h; done)
  · exact ⟨_, _, rfl, rfl, rfl⟩
theorem view_addr {env : Operand → Value} {o : Op} {sz : Option Nat} {x i : Value} (h : viewOp P env o = .addr sz x i) : ∃ t X I, o = .indexAddr t X I ∧ env X = x ∧ env I = i ∧ elemSz P t = sz := by
  cases o <;> simp only [viewOp] at h <;> try cases h
  any_goals ((repeat' split at h) <;> cases h; done)
  · exact ⟨_, _, _, rfl, rfl, rfl, rfl⟩
theorem view_un {env : Operand → Value} {o : Op} {op : UnOp} {x : Value} (h : viewOp P env o = .un op x) : ∃ t X, o = .unOp op t X ∧ env X = x := by
  cases o <;> simp only [viewOp] at h <;> try cases h
  any_goals ((repeat' split at h) <;> cases h; done)
  · exact ⟨_, _, rfl, rfl⟩
theorem run_loadEl {t : TypeId} {k : Option Nat} {b off : Nat} {e : Value} {w : World} (hk : ldKind P t = some k) (hs : elOK k e = true) (h : ElP u b off e) (hp : Part u w) : (loadVar t ⟨b, off, none⟩).run P w = .ok e w := by
  unfold ldKind at hk
  unfold loadVar
  split at hk
  · rename_i ha
    split at hk
    · rename_i n hn
      simp at hk; subst hk
      unfold elOK at hs
      simp only at hs
      split at hs
      · rename_i cs
        have hl := Nat.eq_of_beq_eq_true hs
        have := run_loadCells_list (P := P) w ⟨b, off, none⟩ cs.toList (fun j v hj => by rw [addr_add]; exact (h j v (by simpa [Value.cells] using hj)).cell hp)
        simp only [Sem.run_bind, run_isAgg' ha, Result.andThen_ok, if_true, run_sizeOf' hn, hl]
        simp at this
        rw [this]; simp
      · cases hs
    · cases hk
  · rename_i ha
    simp at hk; subst hk
    unfold elOK at hs
    have hc : e.cells = #[e] := by cases e <;> simp_all [Value.cells]
    have := (h 0 e (by simp [hc])).cell hp
    simp [run_isAgg' ha]
    simp at this
    simp [this]
  · cases hk
theorem G.loadU (kd : Option Nat) (b off : Nat) (e : Value) (h : stopV P (adv P st) = .load (some kd) (.pointer (some ⟨b, off, none⟩))) (hs : elOK kd e = true) (he : ElP u b off e) (k : G P fn Post (nx (adv P st) e) u m) : G P fn Post st u m := by
  refine G.ask h (by simp) (fun env o hview w hp => ?_) k
  obtain ⟨t, X, e1, e2, e3⟩ := view_load hview
  obtain ⟨dst, opp, type, pos, after, guard⟩ := o
  simp only at e1; subst e1
  simp [execOp, Instr.loadAt, Instr.sureAddr, e2, run_loadEl e3 hs he (hp rfl).1]
theorem G.loadM (kd : Option Nat) (b off : Nat) (e : Value) (h : stopV P (adv P st) = .load (some kd) (.pointer (some ⟨b, off, none⟩))) (hs : elOK kd e = true) (he : ElP m b off e) (k : G P fn Post (nx (adv P st) e) u m) : G P fn Post st u m := by
  refine G.ask h (by simp) (fun env o hview w hp => ?_) k
  obtain ⟨t, X, e1, e2, e3⟩ := view_load hview
  obtain ⟨dst, opp, type, pos, after, guard⟩ := o
  simp only at e1; subst e1
  simp [execOp, Instr.loadAt, Instr.sureAddr, e2, run_loadEl e3 hs he (hp rfl).2]
theorem G.addr (b off n c j sz : Nat) (h : stopV P (adv P st) = .addr (some sz) (.slice (some ⟨b, off, none⟩) n c) (.int .i64 (j : Int))) (hj : j < n)
    (k : G P fn Post (nx (adv P st) (.pointer (some ⟨b, off + j * sz, none⟩))) u m) : G P fn Post st u m := by
  refine G.ask h (by simp) (fun env o hview w hp => ?_) k
  obtain ⟨t, X, I, e1, e2, e3, hsz⟩ := view_addr hview
  obtain ⟨dst, opp, type, pos, after, guard⟩ := o
  simp only at e1; subst e1
  unfold elemSz at hsz
  split at hsz
  · rename_i e hu
    have h1 : (0 : Int) ≤ j ∧ (j : Int) < n := by omega
    simp [execOp, Instr.indexAt, asIntOf, e2, e3, run_underlying hu, h1, run_sizeOf' hsz, addr_add]
    omega
  · cases hsz
theorem G.neg (x z : Int) (h : stopV P (adv P st) = .un .neg (.int .i64 x)) (hz : -x = z) (h1 : -9223372036854775808 ≤ z) (h2 : z ≤ 9223372036854775807)
    (k : G P fn Post (nx (adv P st) (.int .i64 z)) u m) : G P fn Post st u m := by
  refine G.ask h (by simp) (fun env o hview w hp => ?_) k
  obtain ⟨t, X, e1, e2⟩ := view_un hview
  obtain ⟨dst, opp, type, pos, after, guard⟩ := o
  simp only at e1; subst e1
  have : (0 : Int) - x = z := by omega
  simp [execOp, Op.unary, e2, Op.intArith, this, i64_wrap h1 h2]
end rules
end Go.Proofs.YtpdboaedoimahaaGreatDoor
end
section
set_option linter.unusedSectionVars false
namespace Go.Proofs.YtpdboaedoimahaaGreatDoor
open Go.RowKit
section
variable {u : PH} {x x' : Value}
theorem numCompare0 {y z : Int} (h : NumP u x y) (h' : NumP u x' z) (sy : nl y.natAbs ≤ 5000000000000) (sz : nl z.natAbs ≤ 5000000000000) : Fn0 Tryz.prog 129 [x, x'] u fun v _ => v = .int .i64 (sgn (y - z)) :=
  Fn0.ofW (fun v _ => v = .int .i64 (sgn (y - z))) (fun w hp => (numCompare_any x x' y z w (h.toW hp) (h'.toW hp) sy sz).mono fun _ _ ⟨e, k⟩ => ⟨_, e, rfl, k⟩) (fun _ _ _ h _ _ _ => h)
theorem numGcd0 {y z : Int} (h : NumP u x y) (h' : NumP u x' z) (sy : nl y.natAbs ≤ 5000000000000) (sz : nl z.natAbs ≤ 5000000000000) : Fn0 Tryz.prog 128 [x, x'] u fun v u' => NumP u' v (Nat.gcd y.natAbs z.natAbs) :=
  Fn0.ofW (fun v w => NumV w v (Nat.gcd y.natAbs z.natAbs)) (fun w hp => numGcd_any x x' y z w (h.toW hp) (h'.toW hp) sy sz) (fun _ _ _ h _ c _ => NumP.ofW h c)
theorem numOf0 {z : Int} (h1 : -9223372036854775808 ≤ z) (h2 : z ≤ 9223372036854775807) : Fn0 Tryz.prog 130 [.int .i64 z] u fun v u' => NumP u' v z :=
  Fn0.ofW (fun v w => NumV w v z) (fun w _ => numOf_any z w h1 h2) (fun _ _ _ h _ c _ => NumP.ofW h c)
theorem fracSign0 {q : Rat} (h : FracP u x q) (hn : nl q.num.natAbs ≤ 100000000000000) : Fn0 Tryz.prog 156 [x] u fun v _ => v = .int .i64 (sgn q.num) :=
  Fn0.ofW (fun v _ => v = .int .i64 (sgn q.num)) (fun w hp => (fracSign_any x q w (h.toW hp) hn).mono fun _ _ ⟨e, k⟩ => ⟨_, e, rfl, k⟩) (fun _ _ _ h _ _ _ => h)
theorem fracWhole0 {q : Rat} (h : FracP u x q) (hd : nl q.den ≤ 4000000000000) : Fn0 Tryz.prog 152 [x] u fun v _ => v = .bool (decide (q.den = 1)) :=
  Fn0.ofW (fun v _ => v = .bool (decide (q.den = 1))) (fun w hp => (fracWhole_any x q w (h.toW hp) hd).mono fun _ _ ⟨e, k⟩ => ⟨_, e, rfl, k⟩) (fun _ _ _ h _ _ _ => h)
theorem fracOf0 {z : Int} (h1 : -9223372036854775808 ≤ z) (h2 : z ≤ 9223372036854775807) : Fn0 Tryz.prog 86 [.int .i64 z] u fun v u' => FracP u' v (z : Rat) :=
  Fn0.ofW (fun v w => FracV w v (z : Rat)) (fun w _ => fracOf_any z w h1 h2) (fun _ _ _ h _ c _ => FracP.ofW h c)
theorem fracMul0 {q r : Rat} (h : FracP u x q) (h' : FracP u x' r) (h1 : Sz q 1000000000000) (h2 : Sz r 1000000000000) : Fn0 Tryz.prog 89 [x, x'] u fun v u' => FracP u' v (q * r) :=
  Fn0.ofW (fun v w => FracV w v (q * r)) (fun w hp => fracMul_any x x' q r w (h.toW hp) (h'.toW hp) h1 h2) (fun _ _ _ h _ c _ => FracP.ofW h c)
theorem fracAdd0 {q r : Rat} (h : FracP u x q) (h' : FracP u x' r) (h1 : Sz q 1000000000000) (h2 : Sz r 1000000000000) : Fn0 Tryz.prog 90 [x, x'] u fun v u' => FracP u' v (q + r) :=
  Fn0.ofW (fun v w => FracV w v (q + r)) (fun w hp => fracAdd_any x x' q r w (h.toW hp) (h'.toW hp) h1 h2) (fun _ _ _ h _ c _ => FracP.ofW h c)
end
end Go.Proofs.YtpdboaedoimahaaGreatDoor
end
section
set_option linter.unusedSectionVars false
set_option linter.unusedSimpArgs false
namespace Go.Proofs.YtpdboaedoimahaaGreatDoor
variable [Flag]
open Go.RowKit
def PH.upd (m : PH) (g : Nat) (o : Obj) : PH := fun h => if h = g then some o else m h
theorem upd_same (m : PH) (g : Nat) (o : Obj) : m.upd g o g = some o := by simp [PH.upd]
theorem upd_ne (m : PH) {g h : Nat} (o : Obj) (hn : h ≠ g) : m.upd g o h = m h := by simp [PH.upd, hn]
theorem upd_upd (m : PH) (g : Nat) (o o' : Obj) : (m.upd g o).upd g o' = m.upd g o' := by
  funext h; by_cases e : h = g
  · subst e; simp [PH.upd]
  · simp [PH.upd, e]
theorem le_upd {m : PH} {g : Nat} (o : Obj) (h : m g = none) : PH.le m (m.upd g o) := fun k x hk => by
  by_cases e : k = g
  · subst e; rw [h] at hk; cases hk
  · rw [upd_ne _ _ e]; exact hk
def flat (es : List Value) : List Value := es.flatMap fun e => e.cells.toList
def ElsOK (sz : Nat) (es : List Value) : Prop := ∀ e ∈ es, e.cells.size = sz ∧ ∀ x ∈ e.cells.toList, cellOK x = true
theorem flat_length {sz : Nat} : ∀ {es : List Value}, ElsOK sz es → (flat es).length = es.length * sz
  | [], _ => by simp [flat]
  | e :: es, h => by
    have h1 := (h e (by simp)).1
    have ih := flat_length (sz := sz) (es := es) (fun x hx => h x (List.mem_cons_of_mem _ hx))
    unfold flat at ih ⊢
    simp only [List.flatMap_cons, List.length_append, ih, List.length_cons, Array.length_toList, h1, Nat.add_mul, Nat.one_mul]; omega
theorem flat_append (a b : List Value) : flat (a ++ b) = flat a ++ flat b := by simp [flat]
theorem flat_ok {sz : Nat} {es : List Value} (h : ElsOK sz es) : ∀ x ∈ flat es, cellOK x = true := by
  intro x hx
  obtain ⟨e, he, hx⟩ := List.mem_flatMap.1 hx
  exact (h e he).2 x hx
theorem ElsOK.append {sz : Nat} {a b : List Value} (h : ElsOK sz a) (k : ElsOK sz b) : ElsOK sz (a ++ b) := fun e he => (List.mem_append.1 he).elim (h e) (k e)
theorem flat_get {sz : Nat} : ∀ {es : List Value}, ElsOK sz es → ∀ {j i : Nat} {e x : Value}, es[j]? = some e → e.cells[i]? = some x → (flat es)[j * sz + i]? = some x
  | [], _, j, i, e, x, hj, _ => by simp at hj
  | d :: es, h, j, i, e, x, hj, hi => by
    have hd := (h d (by simp)).1
    have hr : ElsOK sz es := fun x hx => h x (List.mem_cons_of_mem _ hx)
    have e1 : flat (d :: es) = d.cells.toList ++ flat es := by simp [flat]
    rw [e1]
    cases j with
    | zero =>
      simp at hj; subst hj
      have : i < d.cells.size := (Array.getElem?_eq_some_iff.1 hi).1
      rw [List.getElem?_append_left (by simp; omega)]
      simpa using hi
    | succ j =>
      simp at hj
      rw [List.getElem?_append_right (by simp [hd, Nat.add_mul]; omega)]
      have := flat_get hr hj hi
      rw [← this]; congr 1
      simp [hd, Nat.add_mul]; omega
def ArrAt (m0 m : PH) (v : Value) (t : TypeId) (sz : Nat) (es : List Value) : Prop :=
  ElsOK sz es ∧ ((v = .slice none 0 0 ∧ es = [] ∧ m = m0) ∨
    ∃ g cap rest, m0 g = none ∧ m = m0.upd g (.cells (flat es ++ rest).toArray t (0, 0)) ∧ v = .slice (some ⟨g, 0, none⟩) es.length cap ∧ es.length ≤ cap ∧ (flat es ++ rest).length = cap * sz ∧ ∀ x ∈ rest, cellOK x = true)
theorem ArrAt.nil (m : PH) (t : TypeId) (sz : Nat) : ArrAt m m (.slice none 0 0) t sz [] := ⟨fun _ h => absurd h (by simp), .inl ⟨rfl, rfl, rfl⟩⟩
theorem ArrAt.shape {m0 m : PH} {v : Value} {t : TypeId} {sz : Nat} {es : List Value} (h : ArrAt m0 m v t sz es) : ∃ a cap, v = .slice a es.length cap := by
  rcases h.2 with ⟨rfl, rfl, _⟩ | ⟨g, cap, rest, _, _, rfl, _⟩
  · exact ⟨none, 0, rfl⟩
  · exact ⟨_, cap, rfl⟩
theorem elInfo_spec {P : Program} {t e : TypeId} {sz bt : Nat} {z : Value} (h : elInfo P t = some (e, sz, bt, z)) : P.underlying t = some (.slice e) ∧ ∃ i, P.info? e = some i ∧ i.zero = some z ∧ i.size = sz ∧ i.bytes = bt := by
  unfold elInfo at h
  split at h
  · rename_i e' hu
    split at h
    · rename_i i hi
      split at h
      · rename_i z' hz
        simp at h
        obtain ⟨rfl, rfl, rfl, rfl⟩ := h
        exact ⟨hu, i, hi, hz, rfl, rfl⟩
      · cases h
    · cases h
  · cases h
theorem zeroCells_ok {z : Array Value} (h : z.toList.all cellOK = true) (n : Nat) : ∀ x ∈ (Builtin.zeroCells z n).toList, cellOK x = true := by
  intro x hx
  simp [Builtin.zeroCells] at hx
  obtain ⟨i, hi, rfl⟩ := hx
  rw [List.all_eq_true] at h
  by_cases hz : z.size = 0
  · simp [hz] at hi
  · have hlt : i % z.size < z.size := Nat.mod_lt _ (by omega)
    refine h _ ?_
    rw [getElem!_pos z _ hlt]; simp
theorem madeCells_ok {z : Array Value} (h : z.toList.all cellOK = true) (n : Nat) (hz : z.size ≠ 0) : ∀ x ∈ (madeCells z n).toList, cellOK x = true := by
  intro x hx
  simp [madeCells] at hx
  obtain ⟨i, hi, rfl⟩ := hx
  rw [List.all_eq_true] at h
  have hlt : i % z.size < z.size := Nat.mod_lt _ (by omega)
  refine h _ ?_
  rw [getElem!_pos z _ hlt]; simp
section worlds
variable {u m : PH} {w : World}
theorem Good.newM (h : Good u m w) {cs : Array Value} {t : TypeId} (hw : ∀ x ∈ cs.toList, cellOK x = true) : Good u (m.upd w.heap.size (.cells cs t (0, 0))) (w.alloc (.cells cs t)) ∧ Grown u m w u (m.upd w.heap.size (.cells cs t (0, 0))) (w.alloc (.cells cs t)) ∧ m w.heap.size = none ∧ u w.heap.size = none := by
  have hm : m w.heap.size = none := h.pm.none (Nat.le_refl _)
  have hu : u w.heap.size = none := h.pu.none (Nat.le_refl _)
  have g1 := h.alloc (cs := cs) (t := t) (fr := (0, 0)) (fun j z e => cellOK_word (hw _ (by obtain ⟨hj, he⟩ := Array.getElem?_eq_some_iff.1 e; rw [← he]; simp)) z rfl)
  refine ⟨⟨g1.pu, fun g o hg => ?_, fun g => ?_, g1.cl⟩, ⟨by rw [size_alloc']; omega, fun g hg _ => heap_alloc_lt _ _ hg, fun _ _ => rfl, fun g hg hm => by rw [upd_ne _ _ (by omega)]; exact hm, ⟨rfl, rfl⟩, fun _ => ⟨rfl, Nat.le_refl _⟩⟩, hm, hu⟩
  · by_cases e : g = w.heap.size
    · subst e; rw [upd_same] at hg; rw [heap_alloc_eq]; exact hg
    · rw [upd_ne _ _ e] at hg; exact g1.pm g o hg
  · by_cases e : g = w.heap.size
    · subst e; exact .inl hu
    · rw [upd_ne _ _ e]; exact h.ap g
theorem Good.drew' (h : Good u m w) : Good u m w.drew := ⟨h.pu, h.pm, h.ap, h.cl⟩
theorem Good.less (h : Good u m w) {m' : PH} (hl : PH.le m' m) : Good u m' w := by
  refine ⟨h.pu, fun g o hg => h.pm g o (hl g o hg), fun g => (h.ap g).imp id fun e => ?_, h.cl⟩
  cases hg : m' g with
  | none => rfl
  | some o => rw [hl g o hg] at e; cases e
theorem Good.setM (h : Good u m w) {g : Nat} {cs cs' : Array Value} {t : TypeId} (hg : m g = some (.cells cs t (0, 0))) (hw : ∀ x ∈ cs'.toList, cellOK x = true) : Good u (m.upd g (.cells cs' t (0, 0))) (w.setRow g cs') ∧ Grown u m w u (m.upd g (.cells cs' t (0, 0))) (w.setRow g cs') := by
  have hb := h.pm g _ hg
  have hug : u g = none := by rcases h.ap g with e | e
                              · exact e
                              · rw [hg] at e; cases e
  have hsame := setRow_heap w g cs cs' t (0, 0) hb
  have hother : ∀ k, k ≠ g → (w.setRow g cs').heap[k]? = w.heap[k]? := fun k hk => setRow_other w g k cs' hk
  refine ⟨⟨fun k o hk => ?_, fun k o hk => ?_, fun k => ?_, fun k cs1 t1 fr1 j z hk hj => ?_⟩, ⟨by rw [setRow_size]; exact Nat.le_refl _, fun k hk hm => hother k (fun e => by rw [e, hg] at hm; cases hm), fun _ _ => rfl, fun k hk hm => by rw [upd_ne _ _ (fun e => by rw [e, hg] at hm; cases hm)]; exact hm, ⟨rfl, rfl⟩, fun _ => ⟨rfl, Nat.le_refl _⟩⟩⟩
  · rw [hother k (fun e => by rw [e, hug] at hk; cases hk)]; exact h.pu k o hk
  · by_cases e : k = g
    · subst e; rw [upd_same] at hk; rw [hsame]; exact hk
    · rw [upd_ne _ _ e] at hk; rw [hother k e]; exact h.pm k o hk
  · by_cases e : k = g
    · subst e; exact .inl hug
    · rw [upd_ne _ _ e]; exact h.ap k
  · by_cases e : k = g
    · subst e
      rw [hsame] at hk
      simp only [Option.some.injEq, Obj.cells.injEq] at hk
      obtain ⟨rfl, _, _⟩ := hk
      obtain ⟨hlt, he⟩ := Array.getElem?_eq_some_iff.1 hj
      exact absurd he (cellOK_word (hw _ (by simp)) z)
    · rw [hother k e] at hk; exact h.cl k cs1 t1 fr1 j z hk hj
theorem Good.newU (h : Good u m w) (o : Obj) : Good (u.upd w.heap.size o) m (w.alloc o) ∧ Grown u m w (u.upd w.heap.size o) m (w.alloc o) ∧ m w.heap.size = none ∧ u w.heap.size = none := by
  have hm : m w.heap.size = none := h.pm.none (Nat.le_refl _)
  have hu : u w.heap.size = none := h.pu.none (Nat.le_refl _)
  refine ⟨⟨fun g o' hg => ?_, fun g o' hg => ?_, fun g => ?_, fun g cs t fr j z hg hj => ?_⟩, ⟨by rw [size_alloc']; omega, fun g hg _ => heap_alloc_lt _ _ hg, fun g hg => upd_ne _ _ (by omega), fun g hg hm => hm, ⟨rfl, rfl⟩, fun _ => ⟨rfl, Nat.le_refl _⟩⟩, hm, hu⟩
  · by_cases e : g = w.heap.size
    · subst e; rw [upd_same] at hg; rw [heap_alloc_eq]; exact hg
    · rw [upd_ne _ _ e] at hg; rw [heap_alloc_lt _ _ (h.pu.lt hg)]; exact h.pu g o' hg
  · rw [heap_alloc_lt _ _ (h.pm.lt hg)]; exact h.pm g o' hg
  · by_cases e : g = w.heap.size
    · subst e; exact .inr hm
    · rw [upd_ne _ _ e]; exact h.ap g
  · by_cases e : g = w.heap.size
    · subst e; rw [heap_alloc_eq] at hg; rw [upd_same]; exact hg
    · rw [upd_ne _ _ e]
      have hlt := lt_of_at hg
      rw [size_alloc'] at hlt
      rw [heap_alloc_lt _ _ (by omega)] at hg
      exact h.cl g cs t fr j z hg hj
end worlds
def ElsP (u : PH) (b off sz : Nat) (xs : List Value) : Prop := ∀ j e, xs[j]? = some e → ElP u b (off + j * sz) e
theorem ElsP.mono {u u' : PH} {b off sz : Nat} {xs : List Value} (h : ElsP u b off sz xs) (hl : PH.le u u') : ElsP u' b off sz xs := fun j e hj => (h j e hj).mono hl
theorem flat_split {sz : Nat} (hs : 0 < sz) : ∀ {xs : List Value}, ElsOK sz xs → ∀ {k : Nat} {x : Value}, (flat xs)[k]? = some x → ∃ j i e, k = j * sz + i ∧ xs[j]? = some e ∧ e.cells[i]? = some x
  | [], _, k, x, h => by simp [flat] at h
  | d :: xs, ho, k, x, h => by
    have hd := (ho d (by simp)).1
    have e1 : flat (d :: xs) = d.cells.toList ++ flat xs := by simp [flat]
    rw [e1, List.getElem?_append] at h
    split at h
    · exact ⟨0, k, d, by simp, by simp, by simpa using h⟩
    · rename_i hk
      obtain ⟨j, i, e, h1, h2, h3⟩ := flat_split hs (fun x hx => ho x (List.mem_cons_of_mem _ hx)) h
      refine ⟨j + 1, i, e, ?_, by simpa using h2, h3⟩
      simp [hd] at h1 hk
      rw [Nat.add_mul]; omega
theorem ElsP.cells {u : PH} {w : World} {b off sz : Nat} {xs : List Value} (hs : 0 < sz) (h : ElsP u b off sz xs) (ho : ElsOK sz xs) (hp : Part u w) : ∀ j v, (flat xs)[j]? = some v → w.cell? ((⟨b, off, none⟩ : Addr).add j) = some v := by
  intro k x hk
  obtain ⟨j, i, e, rfl, h2, h3⟩ := flat_split hs ho hk
  rw [addr_add]
  have := (h j e h2 i x h3).cell hp
  rw [show off + (j * sz + i) = off + j * sz + i by omega]; exact this
section rules
variable {P : Program} [Mixed P] {fn : Func} {Post : Spec} {st : List KI × S} {u m : PH}
theorem does_value {env : Operand → Value} {o : Oper} {w w' : World} {v : Value} {K : Value → World → Prop} (h : (execOp env o).run P w = .ok (.value v) w') (hk : K v w') : OpDoes P env o w K := by
  unfold OpDoes; rw [h]; exact hk
theorem view_app {env : Operand → Value} {o : Oper} {inf : Option (TypeId × Nat × Nat × Value)} {xs : List Value} (h : viewOp P env o.op = .app inf true xs) : mutOp o.op = true ∧ freeOp o.op = false ∧ ∃ t, elInfo P t = inf ∧ ∀ w, (execOp env o).run P w = ((Builtin.append_ #[t, t] o.type xs.toArray).run P w).andThen fun v w' => .ok (.value v) w' := by
  obtain ⟨dst, opp, type, pos, after, guard⟩ := o
  simp only at h ⊢
  cases opp <;> simp only [viewOp] at h <;> try cases h
  · split at h <;> cases h
  rename_i c
  obtain ⟨cal, args, tys⟩ := c
  simp only at h
  split at h
  · split at h <;> cases h
  · rename_i b
    split at h
    · split at h
      · rename_i t t' htt
        simp only [Stop.app.injEq] at h
        obtain ⟨rfl, h2, rfl⟩ := h
        have := Nat.eq_of_beq_eq_true h2
        subst this
        have hty : tys = #[t, t] := by apply Array.ext'; simpa using htt
        refine ⟨rfl, rfl, t, rfl, fun w => ?_⟩
        have : (args.map env) = (args.toList.map env).toArray := by apply Array.ext'; simp
        simp [execOp, resolve, invoke, builtin, hty, this]
      · cases h
    · cases h
  · cases h
theorem append_world {t e : TypeId} {sz bt : Nat} {z : Value} (m0 : PH) (es xs : List Value) (v : Value) (b off n c : Nat) (ty : TypeId) (hi : elInfo P t = some (e, sz, bt, z)) (hz : z.cells.toList.all cellOK = true) (hzs : z.cells.size = sz) (hsz : 0 < sz)
    (ha : ArrAt m0 m v e sz es) (ho : ElsOK sz xs) (hn : xs.length = n) (hn0 : 0 < n) (hb : (es.length + n) * bt ≤ 140737488355328) (hb2 : es.length + n ≤ 9223372036854775807) {w : World} (hgd : Good u m w)
    (hsrc : ∀ j v, (flat xs)[j]? = some v → w.cell? ((⟨b, off, none⟩ : Addr).add j) = some v) :
    ∃ v' w' m', (Builtin.append_ #[t, t] ty #[v, .slice (some ⟨b, off, none⟩) n c]).run P w = .ok v' w' ∧ Good u m' w' ∧ Grown u m w u m' w' ∧ ArrAt m0 m' v' e sz (es ++ xs) := by
  obtain ⟨hu, i, hi1, hi2, rfl, rfl⟩ := elInfo_spec hi
  have hfl := flat_length ho
  have hok := ha.1.append ho
  rcases ha.2 with ⟨rfl, rfl, rfl⟩ | ⟨g, cap, rest, hg0, rfl, rfl, hcap, hlen, hrest⟩
  · simp only [List.length_nil, Nat.zero_add] at hb hb2
    have hr := run_append_nil (P := P) w t ty e i z hu hi1 hi2 ⟨b, off, none⟩ n c (flat xs) (by rw [hfl, hn]) hsrc hn0 (by omega) (by omega)
    have hcell : ∀ x ∈ ((flat xs).toArray ++ Builtin.zeroCells z.cells (grownCap w n 0 e - n)).toList, cellOK x = true := fun x hx => by
      simp only [Array.toList_append, List.mem_append] at hx
      rcases hx with hx | hx
      · exact flat_ok ho x hx
      · exact zeroCells_ok hz _ x hx
    obtain ⟨g1, g2, g3, _⟩ := hgd.drew'.newM (t := e) hcell
    refine ⟨_, _, _, hr, g1, ⟨g2.sz, g2.old, g2.us, g2.ms, g2.io, fun f => ⟨(g2.dr f).tape, Nat.le_of_succ_le (g2.dr f).dr⟩⟩, hok, .inr ⟨w.heap.size, grownCap w n 0 e, (Builtin.zeroCells z.cells (grownCap w n 0 e - n)).toList, g3, ?_, ?_, ?_, ?_, zeroCells_ok hz _⟩⟩
    · congr 2; apply Array.ext'; simp
    · simp [hn]
    · simp only [List.nil_append, hn]; exact grownCap_ge w n 0 e
    · have := grownCap_ge w n 0 e
      simp only [List.nil_append, List.length_append, hfl, hn, Array.length_toList, size_zeroCells, hzs]
      rw [← Nat.add_mul]; congr 1; omega
  · have hgw := hgd.pm g _ (upd_same _ _ _)
    have hfe := flat_length ha.1
    by_cases hroom : es.length + n ≤ cap
    · have hle : (es.length + n) * i.size ≤ cap * i.size := Nat.mul_le_mul_right _ hroom
      rw [Nat.add_mul] at hle
      have hr := run_append_room (P := P) w t ty e i hu hi1 g es.length cap (flat es ++ rest).toArray hgw ⟨b, off, none⟩ n c (flat xs) (by rw [hfl, hn]) hsrc (fun x hx => cellOK_one (flat_ok ho x hx)) hroom (by simp only [List.size_toArray]; rw [hlen, hfl, hn]; omega)
      have e1 : (flat es ++ rest).toArray.toList.take (es.length * i.size) = flat es := by
        simp only [List.toList_toArray]; rw [← hfe, List.take_left]
      rw [e1] at hr
      have hd : ∀ x ∈ (flat es ++ rest).toArray.toList.drop (es.length * i.size + (flat xs).length), cellOK x = true := by
        intro x hx
        simp only [List.toList_toArray] at hx
        rw [← hfe, ← List.drop_drop, List.drop_left] at hx
        exact hrest x (List.mem_of_mem_drop hx)
      have hcell : ∀ x ∈ (flat es ++ flat xs ++ (flat es ++ rest).toArray.toList.drop (es.length * i.size + (flat xs).length)).toArray.toList, cellOK x = true := by
        intro x hx
        simp only [List.toList_toArray] at hx
        rcases List.mem_append.1 hx with hx | hx
        · rcases List.mem_append.1 hx with hx | hx
          · exact flat_ok ha.1 x hx
          · exact flat_ok ho x hx
        · exact hd x (by simpa using hx)
      obtain ⟨g1, g2⟩ := hgd.setM (upd_same _ _ _) hcell
      rw [upd_upd] at g1 g2
      refine ⟨_, _, _, hr, g1, g2, hok, .inr ⟨g, cap, _, hg0, by rw [flat_append], by simp [hn], by simp [hn]; exact hroom, ?_, hd⟩⟩
      rw [flat_append]
      simp only [List.length_append, hfe, hfl, hn, List.toList_toArray, List.length_drop]
      simp only [List.length_append, hfe] at hlen
      omega
    · have hold : ∀ j v, (flat es)[j]? = some v → w.cell? ((⟨g, 0, none⟩ : Addr).add j) = some v := by
        intro j x hj
        rw [addr_add]
        simp [World.cell?, hgw]
        rw [List.getElem?_append_left (by obtain ⟨h, _⟩ := List.getElem?_eq_some_iff.1 hj; exact h)]; exact hj
      have hr := run_append_grow (P := P) w t ty e i z hu hi1 hi2 ⟨g, 0, none⟩ es.length cap (flat es) hfe hold ⟨b, off, none⟩ n c (flat xs) (by rw [hfl, hn]) hsrc (by omega) (by omega) (growslice_fits (by omega) hb)
      have hcell : ∀ x ∈ ((flat es).toArray ++ (flat xs).toArray ++ Builtin.zeroCells z.cells (grownCap w (es.length + n) cap e - (es.length + n))).toList, cellOK x = true := fun x hx => by
        simp only [Array.toList_append, List.mem_append] at hx
        rcases hx with (hx | hx) | hx
        · exact flat_ok ha.1 x hx
        · exact flat_ok ho x hx
        · exact zeroCells_ok hz _ x hx
      obtain ⟨g1, g2, g3, _⟩ := hgd.drew'.newM (t := e) hcell
      have hdsz : w.drew.heap.size = w.heap.size := rfl
      rw [hdsz] at g1 g2 g3
      have hng : w.heap.size ≠ g := fun h => by have := lt_of_at hgw; omega
      have hm0 : m0 w.heap.size = none := by
        have := g3
        rw [upd_ne _ _ hng] at this; exact this
      refine ⟨_, _, m0.upd w.heap.size (.cells ((flat es).toArray ++ (flat xs).toArray ++ Builtin.zeroCells z.cells (grownCap w (es.length + n) cap e - (es.length + n))) e (0, 0)), hr, g1.less (fun k o hk => ?_), ⟨g2.sz, g2.old, g2.us, fun k hk hmk => ?_, g2.io, fun f => ⟨(g2.dr f).tape, Nat.le_of_succ_le (g2.dr f).dr⟩⟩, hok, .inr ⟨w.heap.size, grownCap w (es.length + n) cap e, (Builtin.zeroCells z.cells (grownCap w (es.length + n) cap e - (es.length + n))).toList, hm0, ?_, ?_, ?_, ?_, zeroCells_ok hz _⟩⟩
      · by_cases hk1 : k = w.heap.size
        · subst hk1; rw [upd_same] at hk ⊢; exact hk
        · rw [upd_ne _ _ hk1] at hk ⊢
          rw [upd_ne _ _ (fun h => by rw [h, hg0] at hk; cases hk)]; exact hk
      · rw [upd_ne _ _ (by omega)]
        by_cases hkg : k = g
        · rw [hkg]; exact hg0
        · rw [upd_ne _ _ hkg] at hmk; exact hmk
      · congr 2; apply Array.ext'; simp [flat_append]
      · simp [hn]
      · simp only [List.length_append, hn]; exact grownCap_ge w _ cap e
      · have := grownCap_ge w (es.length + n) cap e
        rw [flat_append]
        simp only [List.length_append, hfl, hfe, hn, Array.length_toList, size_zeroCells, hzs]
        rw [← Nat.add_mul, ← Nat.add_mul]; congr 1; omega
theorem G.append (e : TypeId) (sz bt : Nat) (z : Value) (m0 : PH) (es xs : List Value) (v : Value) (b off n c : Nat) (h : stopV P (adv P st) = .app (some (e, sz, bt, z)) true [v, .slice (some ⟨b, off, none⟩) n c]) (hz : z.cells.toList.all cellOK = true) (hzs : z.cells.size = sz) (hsz : 0 < sz)
    (ha : ArrAt m0 m v e sz es) (hx : ElsP u b off sz xs) (ho : ElsOK sz xs) (hn : xs.length = n) (hn0 : 0 < n) (hb : (es.length + n) * bt ≤ 140737488355328) (hb2 : es.length + n ≤ 9223372036854775807)
    (k : ∀ v' m', ArrAt m0 m' v' e sz (es ++ xs) → G P fn Post (nx (adv P st) v') u m') : G P fn Post st u m := by
  refine G.big (K := fun v' u' m' => u' = u ∧ ArrAt m0 m' v' e sz (es ++ xs)) h (by simp) (fun env op hv => (view_app (P := P) (o := ⟨none, op, 0, "", #[], none⟩) hv).2.1) (.inr fun env op hv => (view_app (P := P) (o := ⟨none, op, 0, "", #[], none⟩) hv).1) (fun env o hview w hgd => ?_) (fun v' u' m' _ hk => ?_)
  · obtain ⟨_, _, t, hi, hex⟩ := view_app (P := P) hview
    obtain ⟨v', w', m', h1, h2, h3, h4⟩ := append_world (P := P) m0 es xs v b off n c o.type hi hz hzs hsz ha ho hn hn0 hb hb2 hgd (hx.cells hsz ho hgd.pu)
    exact does_value (by rw [hex, h1]; rfl) ⟨u, m', h2, h3, rfl, h4⟩
  · obtain ⟨rfl, hk⟩ := hk
    exact k v' m' hk
end rules
end Go.Proofs.YtpdboaedoimahaaGreatDoor
end
section
set_option linter.unusedSectionVars false
set_option linter.unusedSimpArgs false
namespace Go.Proofs.YtpdboaedoimahaaGreatDoor
variable [Flag]
open Go.RowKit
section fill
theorem fill_els {sz : Nat} : ∀ (es : List Value) (k : Nat) (cells : Array Value), ElsOK sz es → (k + es.length) * sz ≤ cells.size →
    Instr.fill (fun i => some (i * sz, sz)) cells (es.zipIdx k |>.map fun p => (p.2, p.1)) = some (cells.toList.take (k * sz) ++ flat es ++ cells.toList.drop ((k + es.length) * sz)).toArray
  | [], k, cells, _, h => by simp [Instr.fill, flat]
  | e :: es, k, cells, ho, h => by
    have h1 := (ho e (by simp)).1
    have ho' : ElsOK sz es := fun x hx => ho x (List.mem_cons_of_mem _ hx)
    have hm : (k + (es.length + 1)) * sz = k * sz + sz + es.length * sz := by rw [Nat.add_mul, Nat.add_mul]; omega
    simp only [List.length_cons] at h
    rw [hm] at h
    simp only [List.zipIdx_cons, List.map_cons]
    rw [fill_step _ _ _ (k * sz) sz _ _ rfl h1 (by omega)]
    rw [fill_els es (k + 1) _ ho' (by simp [h1]; rw [Nat.add_mul, Nat.add_mul]; omega)]
    congr 2
    have hl : (cells.toList.take (k * sz) ++ e.cells.toList).length = (k + 1) * sz := by simp [h1, Nat.add_mul]; omega
    have e1 : (cells.toList.take (k * sz) ++ e.cells.toList ++ cells.toList.drop (k * sz + sz)).toArray.toList.take ((k + 1) * sz) = cells.toList.take (k * sz) ++ e.cells.toList := by
      simp only [List.toList_toArray]; rw [← hl, List.take_left]
    have e2 : (cells.toList.take (k * sz) ++ e.cells.toList ++ cells.toList.drop (k * sz + sz)).toArray.toList.drop ((k + 1 + es.length) * sz) = cells.toList.drop ((k + (es.length + 1)) * sz) := by
      simp only [List.toList_toArray]
      rw [show (k + 1 + es.length) * sz = (k + 1) * sz + es.length * sz by rw [Nat.add_mul], ← hl, ← List.drop_drop, List.drop_left, List.drop_drop]
      congr 1; rw [hm]
    rw [e1, e2]
    simp [flat]
end fill
section rules
variable {P : Program} [Mixed P] {fn : Func} {Post : Spec} {st : List KI × S} {u m : PH}
theorem view_buildS {env : Operand → Value} {o : Op} {inf : Option (TypeId × Nat × Nat × Value)} {n : Nat} {ps : List (Nat × Value)} (h : viewOp P env o = .buildS inf n ps) : ∃ t qs, o = .buildSlice t n qs ∧ (qs.map fun (i, x) => (i, env x)) = ps.toArray ∧ elInfo P t = inf := by
  cases o <;> simp only [viewOp] at h <;> try cases h
  any_goals ((repeat' split at h) <;> cases h; done)
  · exact ⟨_, _, rfl, by apply Array.ext'; simp, rfl⟩
theorem view_make {env : Operand → Value} {o : Op} {inf : Option (TypeId × Nat × Nat × Value)} {x y : Value} (h : viewOp P env o = .make inf x y) : ∃ t X Y, o = .makeSlice t X Y ∧ env X = x ∧ env Y = y ∧ elInfo P t = inf := by
  cases o <;> simp only [viewOp] at h <;> try cases h
  any_goals ((repeat' split at h) <;> cases h; done)
  · exact ⟨_, _, _, rfl, rfl, rfl, rfl⟩
theorem view_store {env : Operand → Value} {o : Op} {sz : Option Nat} {x y : Value} (h : viewOp P env o = .store sz x y) : ∃ t X Y, o = .store t X Y ∧ env X = x ∧ env Y = y ∧ szB P t = sz := by
  cases o <;> simp only [viewOp] at h <;> try cases h
  any_goals ((repeat' split at h) <;> cases h; done)
  · exact ⟨_, _, _, rfl, rfl, rfl, rfl⟩
theorem G.buildU (e : TypeId) (sz bt : Nat) (z : Value) (es : List Value) (h : stopV P (adv P st) = .buildS (some (e, sz, bt, z)) es.length (es.zipIdx.map fun p => (p.2, p.1))) (ho : ElsOK sz es) (hzs : z.cells.size = sz) (hsz : 0 < sz) (hn0 : 0 < es.length) (hb : es.length * sz ≤ 16777216)
    (k : ∀ g u', PH.le u u' → ElsP u' g 0 sz es → G P fn Post (nx (adv P st) (.slice (some ⟨g, 0, none⟩) es.length es.length)) u' m) : G P fn Post st u m := by
  refine G.big (K := fun v' u' m' => m' = m ∧ ∃ g, v' = .slice (some ⟨g, 0, none⟩) es.length es.length ∧ ElsP u' g 0 sz es) h (by simp) (fun env op hv => ?_) (.inl fun v u' m' hk => by rw [hk.1]; exact PH.le_refl _) (fun env o hview w hgd => ?_) (fun v' u' m' hle hk => ?_)
  · obtain ⟨t, qs, rfl, _⟩ := view_buildS hv; rfl
  · obtain ⟨t, qs, e1, e2, hi⟩ := view_buildS hview
    obtain ⟨dst, opp, type, pos, after, guard⟩ := o
    simp only at e1; subst e1
    obtain ⟨hu, i, hi1, hi2, rfl, rfl⟩ := elInfo_spec hi
    obtain ⟨g1, g2, g3, g4⟩ := hgd.newU (.cells (flat es).toArray e (0, 0))
    have hfl := flat_length ho
    have hne : es.length * i.size ≠ 0 := by have := Nat.mul_pos hn0 hsz; omega
    have hfill := fill_els es 0 ((Array.range (es.length * i.size)).map (z.cells[· % z.cells.size]!)) ho (by simp)
    have e0 : ((Array.range (es.length * i.size)).map (z.cells[· % z.cells.size]!)).toList.drop (es.length * i.size) = [] := by
      apply List.drop_eq_nil_of_le; simp
    simp only [Nat.zero_mul, List.take_zero, List.nil_append, Nat.zero_add, e0, List.append_nil] at hfill
    refine does_value (w' := w.alloc (.cells (flat es).toArray e (0, 0))) (v := .slice (some ⟨w.heap.size, 0, none⟩) es.length es.length) ?_ ⟨_, m, g1, g2, rfl, _, rfl, ?_⟩
    · simp only [execOp, e2]
      simp [Instr.buildSlice, run_underlying hu, sizeOf, typeInfo, zeroValue, hi1, hi2, hne, hfill, newRow, show ¬ 16777216 < es.length * i.size by omega]
    · intro j x hj ii y hy
      refine ⟨_, _, _, upd_same _ _ _, ?_⟩
      rw [List.getElem?_toArray, Nat.zero_add]
      exact flat_get ho hj hy
  · obtain ⟨rfl, g, rfl, hk⟩ := hk
    exact k g u' hle hk
theorem G.make (e : TypeId) (sz bt : Nat) (z : Value) (n : Nat) (h : stopV P (adv P st) = .make (some (e, sz, bt, z)) (.int .i64 (n : Int)) (.int .i64 (n : Int))) (hz : z.cells.toList.all cellOK = true) (hzs : z.cells.size = sz) (hsz : 0 < sz)
    (hb : bt * n ≤ 281474976710656) (hb2 : n ≤ 9223372036854775807) (k : ∀ v' m', ArrAt m m' v' e sz (List.replicate n z) → (∃ a, v' = .slice (some a) n n) → G P fn Post (nx (adv P st) v') u m') : G P fn Post st u m := by
  refine G.big (K := fun v' u' m' => u' = u ∧ PH.le m m' ∧ ArrAt m m' v' e sz (List.replicate n z) ∧ ∃ a, v' = .slice (some a) n n) h (by simp) (fun env op hv => by obtain ⟨t, X, Y, rfl, _⟩ := view_make hv; rfl) (.inl fun v u' m' hk => hk.2.1) (fun env o hview w hgd => ?_) (fun v' u' m' hle hk => ?_)
  · obtain ⟨t, X, Y, e1, e2, e3, hi⟩ := view_make hview
    obtain ⟨dst, opp, type, pos, after, guard⟩ := o
    simp only at e1; subst e1
    obtain ⟨hu, i, hi1, hi2, rfl, rfl⟩ := elInfo_spec hi
    have hb' : (i.bytes : Int) * (n : Int) ≤ 281474976710656 := by have : ((i.bytes * n : Nat) : Int) ≤ 281474976710656 := by omega
                                                                   rwa [Int.natCast_mul] at this
    have hr := run_make (P := P) w t e i z hu hi1 hi2 .i64 .i64 n n (by omega) (Int.le_refl _) hb' (by omega)
    simp only [Int.toNat_natCast] at hr
    obtain ⟨g1, g2, g3, g4⟩ := hgd.newM (t := e) (madeCells_ok hz (n * i.size) (by omega))
    have hok : ElsOK i.size (List.replicate n z) := fun x hx => by
      rw [List.eq_of_mem_replicate hx]
      exact ⟨hzs, fun y hy => by rw [List.all_eq_true] at hz; exact hz y hy⟩
    have hflat : (flat (List.replicate n z)).toArray = madeCells z.cells (n * i.size) := by
      apply Array.ext
      · rw [size_madeCells, List.size_toArray, flat_length hok, List.length_replicate]
      · intro j h1 h2
        rw [size_madeCells] at h2
        have hlt : j % i.size < i.size := Nat.mod_lt _ hsz
        have hq : j / i.size < n := (Nat.div_lt_iff_lt_mul hsz).2 h2
        have hget := flat_get hok (j := j / i.size) (i := j % i.size) (e := z) (x := z.cells[j % i.size]'(by omega)) (by simp [hq]) (by simp)
        rw [show j / i.size * i.size + j % i.size = j by rw [Nat.mul_comm]; exact Nat.div_add_mod _ _] at hget
        have : (flat (List.replicate n z)).toArray[j]? = some z.cells[j % i.size] := by rw [List.getElem?_toArray]; exact hget
        rw [Array.getElem?_eq_getElem h1] at this
        have h3 := Option.some.inj this
        rw [h3]
        simp only [madeCells, Array.getElem_map, Array.getElem_range, hzs]
        rw [getElem!_pos z.cells _ (by omega)]
    refine does_value (w' := w.alloc (.cells (madeCells z.cells (n * i.size)) e (0, 0))) (v := .slice (some ⟨w.heap.size, 0, none⟩) n n) ?_ ⟨u, _, g1, g2, rfl, le_upd _ g3, ⟨hok, .inr ⟨w.heap.size, n, [], g3, ?_, by simp, by simp, ?_, by simp⟩⟩, _, rfl⟩
    · simp only [execOp, e2, e3]
      simp [hr]
    · rw [List.append_nil, hflat]
    · rw [List.append_nil, flat_length hok, List.length_replicate]
  · obtain ⟨rfl, _, hk, ha⟩ := hk
    exact k v' m' hk ha
theorem flat_set {sz : Nat} : ∀ {es : List Value} {j : Nat} {e : Value}, ElsOK sz es → e.cells.size = sz → j < es.length → flat (es.set j e) = (flat es).take (j * sz) ++ e.cells.toList ++ (flat es).drop (j * sz + sz)
  | [], j, e, _, _, h => by simp at h
  | d :: es, j, e, ho, he, h => by
    have hd := (ho d (by simp)).1
    have e1 : ∀ d (l : List Value), flat (d :: l) = d.cells.toList ++ flat l := fun d l => by simp [flat]
    cases j with
    | zero =>
      rw [List.set_cons_zero, e1, e1]
      have : d.cells.toList.length = sz := by simpa using hd
      simp only [Nat.zero_mul, List.take_zero, List.nil_append, Nat.zero_add]
      rw [← this, List.drop_left]
    | succ j =>
      rw [List.set_cons_succ, e1, e1, flat_set (sz := sz) (fun x hx => ho x (List.mem_cons_of_mem _ hx)) he (by simpa using h)]
      have hl : d.cells.toList.length = sz := by simpa using hd
      rw [List.take_append, List.drop_append, hl]
      have a1 : (j + 1) * sz - sz = j * sz := by rw [Nat.add_mul]; omega
      have a2 : (j + 1) * sz + sz - sz = j * sz + sz := by rw [Nat.add_mul]; omega
      have b1 : d.cells.toList.take ((j + 1) * sz) = d.cells.toList := List.take_of_length_le (by rw [hl, Nat.add_mul]; omega)
      have b2 : d.cells.toList.drop ((j + 1) * sz + sz) = [] := List.drop_eq_nil_of_le (by rw [hl, Nat.add_mul]; omega)
      rw [a1, a2, b1, b2]
      simp
theorem ElsOK.set {sz : Nat} {es : List Value} (h : ElsOK sz es) {j : Nat} {e : Value} (he : e.cells.size = sz ∧ ∀ x ∈ e.cells.toList, cellOK x = true) : ElsOK sz (es.set j e) := by
  intro x hx
  rcases List.mem_or_eq_of_mem_set hx with hx | rfl
  · exact h x hx
  · exact he
theorem G.storeA {t : TypeId} (sz : Nat) (m0 : PH) (es : List Value) (b n c j : Nat) (e : Value) (h : stopV P (adv P st) = .store (some sz) (.pointer (some ⟨b, 0 + j * sz, none⟩)) e) (ha : ArrAt m0 m (.slice (some ⟨b, 0, none⟩) n c) t sz es) (hj : j < es.length) (he : e.cells.size = sz) (hc : e.cells.toList.all cellOK = true)
    (k : ∀ m', ArrAt m0 m' (.slice (some ⟨b, 0, none⟩) n c) t sz (es.set j e) → G P fn Post (nx (adv P st) undef) u m') : G P fn Post st u m := by
  refine G.big (K := fun v' u' m' => u' = u ∧ v' = undef ∧ ArrAt m0 m' (.slice (some ⟨b, 0, none⟩) n c) t sz (es.set j e)) h (by simp) (fun env op hv => ?_) (.inr fun env op hv => ?_) (fun env o hview w hgd => ?_) (fun v' u' m' _ hk => ?_)
  · obtain ⟨t', X, Y, rfl, _⟩ := view_store hv; rfl
  · obtain ⟨t', X, Y, rfl, _⟩ := view_store hv; rfl
  · obtain ⟨t', X, Y, e1, e2, e3, ht⟩ := view_store hview
    obtain ⟨dst, opp, type, pos, after, guard⟩ := o
    simp only at e1; subst e1
    rw [List.all_eq_true] at hc
    rcases ha.2 with ⟨hv, _⟩ | ⟨g, cap, rest, hg0, rfl, hv, hcap, hlen, hrest⟩
    · simp at hv
    · simp only [Value.slice.injEq, Option.some.injEq, Addr.mk.injEq, and_true] at hv
      obtain ⟨rfl, rfl, rfl⟩ := hv
      have hgw := hgd.pm b _ (upd_same _ _ _)
      have hfe := flat_length ha.1
      have hjm : j * sz + sz ≤ es.length * sz := by
        have := Nat.mul_le_mul_right sz (show j + 1 ≤ es.length by omega)
        rw [Nat.add_mul] at this; omega
      have hst := run_storeCells_at P b (j * sz) t e.cells.toList 0 (flat es ++ rest).toArray w hgw (by simp [he, hfe]; omega) (fun x hx => cellOK_one (hc x hx))
      simp only [Nat.add_zero, Array.length_toList, he, List.toList_toArray] at hst
      have ecells : (flat es ++ rest).take (j * sz) ++ e.cells.toList ++ (flat es ++ rest).drop (j * sz + sz) = flat (es.set j e) ++ rest := by
        rw [flat_set ha.1 he hj, List.take_append_of_le_length (by omega), List.drop_append_of_le_length (by omega)]
        simp
      rw [ecells] at hst
      have hok := ha.1.set (j := j) (e := e) ⟨he, hc⟩
      have hcell : ∀ x ∈ (flat (es.set j e) ++ rest).toArray.toList, cellOK x = true := by
        intro x hx
        simp only [List.toList_toArray, List.mem_append] at hx
        exact hx.elim (flat_ok hok x) (hrest x)
      obtain ⟨g1, g2⟩ := hgd.setM (upd_same _ _ _) hcell
      rw [upd_upd] at g1 g2
      unfold OpDoes
      have hex : (execOp env ⟨dst, .store t' X Y, type, pos, after, guard⟩).run P w = .ok .skip (w.setRow b (flat (es.set j e) ++ rest).toArray) := by
        simp only [execOp, e2, e3]
        simp [Instr.storeAt, Instr.sureAddr, storeVar, run_sizeOf' ht, he, hst]
      rw [hex]
      refine ⟨u, _, g1, g2, rfl, rfl, hok, .inr ⟨b, c, rest, hg0, rfl, by simp, by simpa using hcap, ?_, hrest⟩⟩
      simp only [List.length_append, flat_length hok, List.length_set, hfe] at hlen ⊢
      exact hlen
  · obtain ⟨rfl, rfl, hk⟩ := hk
    exact k m' hk
theorem ArrAt.el {m0 : PH} {t : TypeId} {sz : Nat} {es : List Value} {b n c j : Nat} {e : Value} (ha : ArrAt m0 m (.slice (some ⟨b, 0, none⟩) n c) t sz es) (hj : es[j]? = some e) : ElP m b (0 + j * sz) e := by
  rcases ha.2 with ⟨hv, _⟩ | ⟨g, cap, rest, hg0, rfl, hv, hcap, hlen, hrest⟩
  · simp at hv
  · simp only [Value.slice.injEq, Option.some.injEq, Addr.mk.injEq, and_true] at hv
    obtain ⟨rfl, rfl, rfl⟩ := hv
    intro i x hx
    refine ⟨_, _, _, upd_same _ _ _, ?_⟩
    rw [List.getElem?_toArray, Nat.zero_add]
    have := flat_get ha.1 hj hx
    rw [List.getElem?_append_left (by obtain ⟨h, _⟩ := List.getElem?_eq_some_iff.1 this; exact h)]; exact this
theorem ArrAt.len {m0 : PH} {t : TypeId} {sz : Nat} {es : List Value} {a : Option Addr} {n c : Nat} (ha : ArrAt m0 m (.slice a n c) t sz es) : n = es.length := by
  rcases ha.2 with ⟨hv, rfl, _⟩ | ⟨g, cap, rest, hg0, rfl, hv, _⟩
  · simp at hv; simp [hv.2.1]
  · simp at hv; exact hv.2.1
theorem ArrAt.ptr {m0 : PH} {t : TypeId} {sz : Nat} {es : List Value} {v : Value} (ha : ArrAt m0 m v t sz es) (h : es ≠ []) : ∃ b c, v = .slice (some ⟨b, 0, none⟩) es.length c := by
  rcases ha.2 with ⟨_, rfl, _⟩ | ⟨g, cap, rest, hg0, rfl, hv, _⟩
  · exact absurd rfl h
  · exact ⟨g, cap, hv⟩
def ListP (u : PH) (v : Value) (sz : Nat) (es : List Value) : Prop := ∃ a c, v = .slice a es.length c ∧ es.length ≤ c ∧ ∀ j e, es[j]? = some e → ∃ b off, a = some ⟨b, off, none⟩ ∧ ElP u b (off + j * sz) e
theorem ListP.mono {u u' : PH} {v : Value} {sz : Nat} {es : List Value} (h : ListP u v sz es) (hl : PH.le u u') : ListP u' v sz es := by
  obtain ⟨a, c, h1, h2, h3⟩ := h
  exact ⟨a, c, h1, h2, fun j e hj => by obtain ⟨b, off, e1, e2⟩ := h3 j e hj; exact ⟨b, off, e1, e2.mono hl⟩⟩
theorem ListP.nil (u : PH) (a : Option Addr) (c sz : Nat) : ListP u (.slice a 0 c) sz [] := ⟨a, c, rfl, Nat.zero_le _, fun j e h => by simp at h⟩
theorem G.give {t : TypeId} {sz : Nat} (m0 : PH) (es : List Value) (v : Value) (h : noReg (ctl P 100 st).1 = true) (ha : ArrAt m0 m v t sz es) (h0 : ∀ g, Post.m0 g = none ∨ m0 g ≠ none) (k : ∀ u', PH.le u u' → ListP u' v sz es → G P fn Post (ctl P 100 st) u' m0) : G P fn Post st u m := by
  refine ⟨ctl_sound 100 st ?_⟩
  rcases ha.2 with ⟨rfl, rfl, rfl⟩ | ⟨g, cap, rest, hg0, rfl, rfl, hcap, hlen, hrest⟩
  · exact (k u (PH.le_refl _) (ListP.nil _ _ _ _)).out
  · have hle : ∀ o, u g = none → PH.le u (u.upd g o) := fun o hu => le_upd o hu
    rw [Sym.ofNo h]
    intro c ρ a w hm0 hr
    have hgw := hr.gd.pm g _ (upd_same _ _ _)
    have hug : u g = none := by
      rcases hr.gd.ap g with e | e
      · exact e
      · rw [upd_same] at e; cases e
    have hnew : c.w0.heap.size ≤ g := by
      rcases Nat.lt_or_ge g c.w0.heap.size with hlt | hge
      · have hpm : c.m0 g = none := by
          rw [hm0]
          rcases h0 g with e | e
          · exact e
          · exact absurd hg0 e
        have := hr.gr.ms g hlt hpm
        rw [upd_same] at this; cases this
      · exact hge
    have hk := k (u.upd g (.cells (flat es ++ rest).toArray t (0, 0))) (hle _ hug) ⟨_, _, rfl, hcap, fun j e hj => ⟨g, 0, rfl, fun i x hx => ⟨_, _, _, upd_same _ _ _, by
      rw [List.getElem?_toArray, Nat.zero_add]
      have := flat_get ha.1 hj hx
      rw [List.getElem?_append_left (by obtain ⟨h, _⟩ := List.getElem?_eq_some_iff.1 this; exact h)]; exact this⟩⟩⟩
    have hk := hk.out
    rw [Sym.ofNo h] at hk
    refine hk c ρ a w hm0 ⟨hr.sz, hr.tm, hr.df.of fun r e _ hu hm => (by
      have hne : r ≠ g := fun e' => (by rw [e', upd_same] at hm; cases hm)
      rw [upd_ne _ _ hne] at hm
      exact ⟨e, by rw [upd_ne _ _ hne]; exact hu, hm⟩), fun kk b hb => ?_, hr.inj, hr.lv, ⟨fun g' o hg => ?_, fun g' o hg => ?_, fun g' => ?_, fun g' cs t' fr j z hg hj => ?_⟩, ⟨hr.gr.sz, hr.gr.old, fun g' hg => ?_, fun g' hg hm => ?_, hr.gr.io, hr.gr.dr⟩⟩
    · obtain ⟨e1, e2, e3, e4⟩ := hr.box kk b hb
      have hne : ρ kk ≠ g := fun e => by rw [e, upd_same] at e4; cases e4
      refine ⟨e1, e2, by rw [upd_ne _ _ hne]; exact e3, ?_⟩
      rw [upd_ne _ _ hne] at e4; exact e4
    · by_cases e : g' = g
      · subst e; rw [upd_same] at hg; rw [hgw]; exact hg
      · rw [upd_ne _ _ e] at hg; exact hr.gd.pu g' o hg
    · refine hr.gd.pm g' o ?_
      rw [upd_ne _ _ (fun e => by rw [e, hg0] at hg; cases hg)]; exact hg
    · by_cases e : g' = g
      · subst e; exact .inr hg0
      · rw [upd_ne _ _ e]
        have := hr.gd.ap g'
        rw [upd_ne _ _ e] at this; exact this
    · by_cases e : g' = g
      · subst e; rw [upd_same, ← hgw]; exact hg
      · rw [upd_ne _ _ e]; exact hr.gd.cl g' cs t' fr j z hg hj
    · rw [upd_ne _ _ (by omega)]; exact hr.gr.us g' hg
    · have := hr.gr.ms g' hg hm
      rw [upd_ne _ _ (by omega)] at this; exact this
end rules
end Go.Proofs.YtpdboaedoimahaaGreatDoor
end
section
set_option linter.unusedSectionVars false
set_option linter.unusedSimpArgs false
namespace Go.Proofs.YtpdboaedoimahaaGreatDoor
variable [Flag]
open Go.RowKit
section rules
variable {P : Program} [Mixed P] {fn : Func} {Post : Spec} {st : List KI × S} {u m : PH}
theorem view_slice {env : Operand → Value} {o : Op} {sz : Option Nat} {x : Value} {lo hi mx : Option Value} (h : viewOp P env o = .slice sz x lo hi mx) : ∃ t X L H M, o = .slice t X L H M ∧ env X = x ∧ L.map env = lo ∧ H.map env = hi ∧ M.map env = mx ∧ elemSz P t = sz := by
  cases o <;> simp only [viewOp] at h <;> try cases h
  any_goals ((repeat' split at h) <;> cases h; done)
  · exact ⟨_, _, _, _, _, rfl, rfl, rfl, rfl, rfl, rfl⟩
theorem addr_map_zero (a : Option Addr) : a.map (·.add 0) = a := by cases a <;> rfl
theorem G.sliceTo (sz : Nat) (a : Option Addr) (n c k : Nat) (h : stopV P (adv P st) = .slice (some sz) (.slice a n c) none (some (.int .i64 (k : Int))) none) (hk : k ≤ c)
    (g : G P fn Post (nx (adv P st) (.slice a k c)) u m) : G P fn Post st u m := by
  refine G.ask h (by simp) (fun env o hview w hp => ?_) g
  obtain ⟨t, X, L, H, M, e1, e2, e3, e4, e5, hsz⟩ := view_slice hview
  obtain ⟨dst, opp, type, pos, after, guard⟩ := o
  simp only at e1; subst e1
  unfold elemSz at hsz
  split at hsz
  · rename_i e hu
    have h1 : (0 : Int) ≤ k ∧ (k : Int) ≤ c := by omega
    simp only [execOp, e2, e3, e4, e5]
    simp only [Instr.sliceAt, Sem.run_bind, run_underlying hu, Result.andThen_ok, Instr.slice, Instr.sliceBounds, Instr.sliceBound, asIntOf, Sem.run_pure, if_true, Option.isSome, Sem.run_ite, run_sizeOf' hsz, h1, and_self, Int.toNat_natCast, Nat.zero_mul, addr_map_zero, Nat.sub_zero]
    simp
  · cases hsz
theorem G.sliceFrom (b off n c k sz : Nat) (h : stopV P (adv P st) = .slice (some sz) (.slice (some ⟨b, off, none⟩) n c) (some (.int .i64 (k : Int))) none none) (hk : k ≤ n) (hc : k < c)
    (g : G P fn Post (nx (adv P st) (.slice (some ⟨b, off + k * sz, none⟩) (n - k) (c - k))) u m) : G P fn Post st u m := by
  refine G.ask h (by simp) (fun env o hview w hp => ?_) g
  obtain ⟨t, X, L, H, M, e1, e2, e3, e4, e5, hsz⟩ := view_slice hview
  obtain ⟨dst, opp, type, pos, after, guard⟩ := o
  simp only at e1; subst e1
  unfold elemSz at hsz
  split at hsz
  · rename_i e hu
    have h1 : (0 : Int) ≤ k ∧ (k : Int) ≤ n := by omega
    have h2 : ¬ (c = k) := by omega
    simp only [execOp, e2, e3, e4, e5]
    simp only [Instr.sliceAt, Sem.run_bind, run_underlying hu, Result.andThen_ok, Instr.slice, Instr.sliceBounds, Instr.sliceBound, asIntOf, Sem.run_pure, if_true, Option.isSome, Sem.run_ite, run_sizeOf' hsz, h1, and_self, Int.toNat_natCast, h2, if_false, Option.map_some, addr_add]
  · cases hsz
theorem G.quo (x y z : Int) (h : stopV P (adv P st) = .bin .quo (.int .i64 x) (.int .i64 y)) (hx : 0 ≤ x) (hx2 : x ≤ 9223372036854775807) (hy : 0 < y) (hz : x / y = z)
    (k : G P fn Post (nx (adv P st) (.int .i64 z)) u m) : G P fn Post st u m := by
  refine G.bin _ h guard_int (fun t w => ?_) k
  have h1 : x.tdiv y = z := by rw [Int.tdiv_eq_ediv_of_nonneg hx]; exact hz
  have h2 : 0 ≤ z := by rw [← hz]; exact Int.ediv_nonneg hx (by omega)
  have h3 : z ≤ x := by rw [← hz]; exact Int.ediv_le_self _ hx
  have h4 : ¬ y = 0 := by omega
  simp [binOp, Op.intDiv, h4, h1, i64_wrap (z := z) (by omega) (by omega)]
theorem G.rem (x y z : Int) (h : stopV P (adv P st) = .bin .rem (.int .i64 x) (.int .i64 y)) (hx : 0 ≤ x) (_hx2 : x ≤ 9223372036854775807) (hy : 0 < y) (hz : x % y = z)
    (k : G P fn Post (nx (adv P st) (.int .i64 z)) u m) : G P fn Post st u m := by
  refine G.bin _ h guard_int (fun t w => ?_) k
  have h1 : x.tmod y = z := by rw [Int.tmod_eq_emod_of_nonneg hx]; exact hz
  have h4 : ¬ y = 0 := by omega
  have h2 : 0 ≤ z := by rw [← hz]; exact Int.emod_nonneg _ h4
  have h3 : z ≤ x := by rw [← hz]; have := Int.mul_ediv_add_emod x y; have h5 := Int.mul_nonneg (Int.le_of_lt hy) (Int.ediv_nonneg hx (Int.le_of_lt hy)); omega
  simp [binOp, Op.intDiv, h4, h1, i64_wrap (z := z) (by omega) (by omega)]
theorem guard_bool {op : BinOp} {x y : Bool} (t : TypeId) (X Y : Operand) (w : World) : (eqGuard op t X Y (.bool x) (.bool y)).run P w = .ok () w := by
  unfold eqGuard; split <;> simp
theorem run_eqB {t : TypeId} (ht : P.underlying t = some .bool) (x y : Bool) (w : World) : (Op.equal t (.bool x) (.bool y)).run P w = .ok (x == y) w := by
  unfold Op.equal
  rw [show Op.maxDepth = 9999 + 1 from rfl, Op.equalIn]
  simp [run_underlying ht]
theorem G.eqB (x y : Bool) (h : stopV P (adv P st) = .binT .eql (some .bool) (.bool x) (.bool y)) (k : G P fn Post (nx (adv P st) (.bool (x == y))) u m) : G P fn Post st u m := by
  refine G.ask h (by simp) (fun env o hview w _ => ?_) k
  obtain ⟨t, X, Y, yt, e, e1, e2, e3⟩ := view_binT hview
  obtain ⟨dst, opp, type, pos, after, guard⟩ := o
  simp only at e; subst e
  simp [execOp, e1, e2, guard_bool, binOp, run_eqB e3]
theorem G.neB (x y : Bool) (h : stopV P (adv P st) = .binT .neq (some .bool) (.bool x) (.bool y)) (k : G P fn Post (nx (adv P st) (.bool (!(x == y)))) u m) : G P fn Post st u m := by
  refine G.ask h (by simp) (fun env o hview w _ => ?_) k
  obtain ⟨t, X, Y, yt, e, e1, e2, e3⟩ := view_binT hview
  obtain ⟨dst, opp, type, pos, after, guard⟩ := o
  simp only at e; subst e
  simp [execOp, e1, e2, guard_bool, binOp, run_eqB e3]
def intsV (l : List Nat) : List Value := l.map fun (n : Nat) => Value.int .i64 (n : Int)
theorem intsV_length (l : List Nat) : (intsV l).length = l.length := by simp [intsV]
theorem view_blt {env : Operand → Value} {o : Op} {b : Builtin} {ts : List TypeId} {xs : List Value} (h : viewOp P env o = .blt b ts xs) : ∃ c, o = .call c ∧ c.callee = .builtin b ∧ c.argTypes = ts.toArray ∧ (c.args.map env) = xs.toArray := by
  cases o <;> simp only [viewOp] at h <;> try cases h
  · split at h <;> cases h
  split at h
  · split at h <;> cases h
  · rename_i c b' hc
    split at h
    · split at h <;> cases h
    · simp only [Stop.blt.injEq] at h
      obtain ⟨rfl, rfl, rfl⟩ := h
      exact ⟨_, rfl, hc, by simp, by apply Array.ext'; simp⟩
  · cases h
theorem G.minI (ts : List TypeId) (x y z : Int) (h : stopV P (adv P st) = .blt .min ts [.int .i64 x, .int .i64 y]) (hz : min x y = z) (k : G P fn Post (nx (adv P st) (.int .i64 z)) u m) : G P fn Post st u m := by
  refine G.ask h (by simp) (fun env o hview w _ => ?_) k
  obtain ⟨c, e1, e2, e3, e4⟩ := view_blt hview
  obtain ⟨dst, opp, type, pos, after, guard⟩ := o
  simp only at e1; subst e1
  subst hz
  have hm : (if y < x then y else x) = min x y := by split <;> omega
  simp [execOp, resolve, e2, invoke, builtin, e4, Builtin.min_, Builtin.min2, hm]
def intsZ (l : List Int) : List Value := l.map fun (n : Int) => Value.int .i64 n
theorem intsZ_length (l : List Int) : (intsZ l).length = l.length := by simp [intsZ]
theorem intsZ_ok (l : List Int) : ElsOK 1 (intsZ l) := by
  intro e he
  simp only [intsZ, List.mem_map] at he
  obtain ⟨n, _, rfl⟩ := he
  simp [Value.cells, cellOK]
theorem intsZ_nat (l : List Nat) : intsZ (l.map fun (n : Nat) => (n : Int)) = intsV l := by simp [intsZ, intsV]
theorem intsV_ok (l : List Nat) : ElsOK 1 (intsV l) := by rw [← intsZ_nat]; exact intsZ_ok _
end rules
end Go.Proofs.YtpdboaedoimahaaGreatDoor
end
section
set_option linter.unusedSectionVars false
set_option linter.unusedVariables false
namespace Go.Proofs.YtpdboaedoimahaaGreatDoor
open Go.RowKit
end Go.Proofs.YtpdboaedoimahaaGreatDoor
end
section
set_option linter.unusedSectionVars false
set_option linter.unusedVariables false
namespace Go.Proofs.YtpdboaedoimahaaGreatDoor
open Go.RowKit
theorem intsV_snoc (l : List Nat) (n : Nat) : intsV l ++ [.int .i64 (n : Int)] = intsV (l ++ [n]) := by simp [intsV]
theorem getD_past {l : List Nat} {k : Nat} (h : ¬ k < l.length) : l.getD k 0 = 0 := by rw [List.getD_eq_getElem?_getD, List.getElem?_eq_none (by omega)]; rfl
end Go.Proofs.YtpdboaedoimahaaGreatDoor
end
section
set_option linter.unusedSectionVars false
set_option linter.unusedVariables false
namespace Go.Proofs.YtpdboaedoimahaaGreatDoor
open Go.RowKit
end Go.Proofs.YtpdboaedoimahaaGreatDoor
end
section
set_option linter.unusedSectionVars false
set_option linter.unusedVariables false
namespace Go.Proofs.YtpdboaedoimahaaGreatDoor
open Go.RowKit
end Go.Proofs.YtpdboaedoimahaaGreatDoor
end
section
set_option linter.unusedSectionVars false
set_option linter.unusedVariables false
namespace Go.Proofs.YtpdboaedoimahaaGreatDoor
open Go.RowKit
end Go.Proofs.YtpdboaedoimahaaGreatDoor
end
section
namespace Go.Proofs.YtpdboaedoimahaaGreatDoor
end Go.Proofs.YtpdboaedoimahaaGreatDoor
end
section
set_option linter.unusedSectionVars false
set_option linter.unusedSimpArgs false
namespace Go.Proofs.YtpdboaedoimahaaGreatDoor
variable [Flag]
open Go.RowKit
section rules
variable {P : Program} [Mixed P] {fn : Func} {Post : Spec} {st : List KI × S} {u m : PH}
theorem ListP.els {sz : Nat} {es : List Value} {b off n c : Nat} (h : ListP u (.slice (some ⟨b, off, none⟩) n c) sz es) : ElsP u b off sz es := by
  obtain ⟨a', c', h1, h2, h3⟩ := h
  simp at h1; obtain ⟨rfl, _, rfl⟩ := h1
  intro j e hj
  obtain ⟨b', off', e1, e2⟩ := h3 j e hj
  simp at e1; obtain ⟨rfl, rfl⟩ := e1; exact e2
theorem G.append0 (e : TypeId) (sz bt : Nat) (z : Value) (a a' : Option Addr) (n c c' : Nat) (h : stopV P (adv P st) = .app (some (e, sz, bt, z)) true [.slice a n c, .slice a' 0 c']) (hc : n ≤ c)
    (k : G P fn Post (nx (adv P st) (.slice a n c)) u m) : G P fn Post st u m := by
  refine G.big (K := fun v' u' m' => u' = u ∧ m' = m ∧ v' = .slice a n c) h (by simp) (fun env op hv => (view_app (P := P) (o := ⟨none, op, 0, "", #[], none⟩) hv).2.1) (.inl fun v u' m' hk => by rw [hk.2.1]; exact PH.le_refl _) (fun env o hview w hgd => ?_) (fun v' u' m' _ hk => ?_)
  · obtain ⟨_, _, t, hi, hex⟩ := view_app (P := P) hview
    obtain ⟨hu, i, hi1, hi2, hi3, hi4⟩ := elInfo_spec hi
    have hr : (Builtin.append_ #[t, t] o.type #[.slice a n c, .slice a' 0 c']).run P w = .ok (.slice a n c) w := by
      cases a <;> cases a' <;> simp [Builtin.append_, run_underlying hu, sizeOf, typeInfo, hi1, Builtin.lenOf, Builtin.firstCells, loadCells, loadCellsFrom, hc, storeCells]
    exact does_value (by rw [hex, hr]; rfl) ⟨u, m, hgd, Grown.refl _ _ _, rfl, rfl, rfl⟩
  · obtain ⟨rfl, rfl, rfl⟩ := hk
    exact k
end rules
end Go.Proofs.YtpdboaedoimahaaGreatDoor
end
section
set_option linter.unusedSectionVars false
set_option linter.unusedVariables false
namespace Go.Proofs.YtpdboaedoimahaaGreatDoor
open Go.RowKit
end Go.Proofs.YtpdboaedoimahaaGreatDoor
end
section
set_option linter.unusedSectionVars false
set_option linter.unusedVariables false
namespace Go.Proofs.YtpdboaedoimahaaGreatDoor
open Go.RowKit
end Go.Proofs.YtpdboaedoimahaaGreatDoor
end
section
set_option linter.unusedSectionVars false
set_option linter.unusedVariables false
namespace Go.Proofs.YtpdboaedoimahaaGreatDoor
open Go.RowKit
section rules
variable {P : Program} [Mixed P] {fn : Func} {Post : Spec} {st : List KI × S} {u m : PH}
end rules
end Go.Proofs.YtpdboaedoimahaaGreatDoor
end
section
set_option linter.unusedSectionVars false
set_option linter.unusedVariables false
namespace Go.Proofs.YtpdboaedoimahaaGreatDoor
open Go.RowKit
theorem tdiv_gcd_l (y : Int) (z : Nat) : y.tdiv (Nat.gcd y.natAbs z : Nat) = y / (Nat.gcd y.natAbs z : Nat) := by
  apply Int.tdiv_eq_ediv_of_dvd
  exact Int.ofNat_dvd_left.2 (Nat.gcd_dvd_left _ _)
theorem tdiv_gcd_r (y : Nat) (z : Int) : z.tdiv (Nat.gcd y z.natAbs : Nat) = z / (Nat.gcd y z.natAbs : Nat) := by
  apply Int.tdiv_eq_ediv_of_dvd
  exact Int.ofNat_dvd_left.2 (Nat.gcd_dvd_right _ _)
theorem new_pos {y z : Int} (hz : 0 < z) : (Rat.divInt y z).num = y.tdiv (Nat.gcd y.natAbs z.natAbs : Nat) ∧ ((Rat.divInt y z).den : Int) = z.tdiv (Nat.gcd y.natAbs z.natAbs : Nat) ∧ 0 < z.tdiv (Nat.gcd y.natAbs z.natAbs : Nat) := by
  have h := divInt_gcd (y := y) hz rfl
  have e : z = ((z.natAbs : Nat) : Int) := by omega
  have h3 : ((Rat.divInt y z).den : Int) = z.tdiv (Nat.gcd y.natAbs z.natAbs : Nat) := by
    rw [h.2, tdiv_gcd_r, Int.natCast_ediv]; congr 1; exact e.symm
  refine ⟨by rw [h.1, tdiv_gcd_l], h3, ?_⟩
  rw [← h3]; have := (Rat.divInt y z).den_pos; omega
end Go.Proofs.YtpdboaedoimahaaGreatDoor
end
