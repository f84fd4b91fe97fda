/- Joined out of parts of one proof by a program: contracts of the functions that the statement reaches, and the plain facts behind them. -/
import Derived.Test.YtikfmknnbjocmaaGreatDoorKL05
import Derived.Shelf.Strings.Builder1
import Derived.Shelf.Strings.Builder2
import Derived.Shelf.Small.Bits
import Derived.Shelf.Small.Wraps
import Derived.Shelf.Strings.BuilderF
import Derived.Shelf.Strings.BuilderK
import Derived.Shelf.Strings.Builder2Cap
import Derived.Shelf.Strconv.Itoa0
import Derived.Shelf.Strconv.Itoa1
import Derived.Shelf.LaysM
import Derived.Shelf.Strconv.Itoa2
import Derived.Shelf.Strconv.Itoa3
import Derived.Shelf.Strconv.Lower
import Derived.Shelf.Strconv.ParseUint10
import Derived.Shelf.Strconv.ParseUintEmpty
import Derived.Shelf.Strconv.ParseUint10b64
import Derived.Shelf.Strconv.ParseUint10b32
import Derived.Shelf.Strconv.ParseUint10b16
import Derived.Shelf.Strconv.ParseUint10b8
import Derived.Shelf.Strconv.ParseUint10At
import Derived.Ground.MpProg
import Derived.Shelf.Pu.ParseUintPublic10
import Derived.Shelf.Strings.Search1
import Derived.Shelf.Strings.Search2
import Derived.Shelf.Strings.Cut
import Derived.Shelf.Strings.Shaped
import Derived.Shelf.Strings.Prefix
import Derived.Shelf.Bits.Mul64
import Derived.Shelf.Strings.Repeat
import Derived.Shelf.Strings.BuilderCap
import Derived.Test.YtikfmknnbjocmaaGreatDoorProg
import Derived.Lib.AppendIntMem
import Derived.Lib.AtoiErrMem
set_option linter.unusedVariables false
set_option linter.unusedSimpArgs false
set_option linter.unusedSectionVars false
section
set_option linter.unusedSectionVars false
set_option linter.unusedVariables false
namespace Go.Proofs.YtikfmknnbjocmaaGreatDoor
open Go.RowKit
theorem bigDigits0 {u : PH} {x : Value} {z : Int} (h : BigP u x z) (hs : nl z.natAbs ≤ 100000000000) : Fn0 Tryz.prog 114 [x] u fun v _ => v = .int .i64 (Lib.nDigits z.natAbs : Nat) := by
  obtain ⟨b, a, n, c, rfl, hb, hi⟩ := h.opn
  obtain ⟨rfl, _⟩ := hi.len
  have hs' : (limbs z.natAbs).length ≤ 100000000000 := hs
  refine Fn0.of Tryz.func114 (by kernel_rfl) (by kernel_rfl) ?_
  by_cases h0 : z.natAbs = 0
  · refine G.eqlT ((limbs z.natAbs).length : Int) 0 (by kernel_rfl) (by rw [h0, limbs_zero]; rfl) ?_
    exact G.ret (.int .i64 1) (by kernel_rfl) ⟨rfl, by rw [h0, Lib.nDigits_small (by omega)]; rfl⟩
  · have hp : 0 < (limbs z.natAbs).length := len_pos.2 (by omega)
    have htop := nDigits_top h0
    have hnz := getLast_limbs h0
    have hlow := (low_limbs z.natAbs).getD ((limbs z.natAbs).length - 1)
    generalize limbs z.natAbs = l at *
    generalize hN : Lib.nDigits z.natAbs = N at *
    have hle9 : ∀ k, k < 1000000000 → Lib.nDigits k ≤ 9 := by
      intro k hk
      rcases Nat.eq_zero_or_pos k with h | h
      · subst h; rw [Lib.nDigits_small (by omega)]; omega
      · have h1 := pow_le_nDigits (n := k) (by omega)
        have h2 : 10 ^ (Lib.nDigits k - 1) < 10 ^ 9 := Nat.lt_of_le_of_lt h1 (by omega)
        have h3 := (Nat.pow_lt_pow_iff_right (by omega : 1 < 10)).1 h2
        omega
    refine G.eqlF (l.length : Int) 0 (by kernel_rfl) (by omega) ?_
    refine G.sub (l.length : Int) 1 ((l.length - 1 : Nat) : Int) (by kernel_rfl) (by omega) (by omega) (by omega) ?_
    refine G.mul 9 ((l.length - 1 : Nat) : Int) ((9 * (l.length - 1) : Nat) : Int) (by kernel_rfl) (by omega) (by omega) (by omega) ?_
    refine G.sub (l.length : Int) 1 ((l.length - 1 : Nat) : Int) (by kernel_rfl) (by omega) (by omega) (by omega) ?_
    obtain ⟨bb, off, rfl, he⟩ := hi.at (j := l.length - 1) (by omega)
    refine G.addr bb off l.length c (l.length - 1) 1 (by kernel_rfl) (by omega) ?_
    refine G.loadU none bb (off + (l.length - 1) * 1) (.int .i64 (l.getD (l.length - 1) 0 : Nat)) (by kernel_rfl) (by kernel_rfl) he ?_
    have h9 := hle9 _ hlow
    refine G.loop (ι := Nat × Nat) (fun i => [(3, .v (.int .i64 (i.1 : Int))), (4, .v (.int .i64 (i.2 : Int)))]) (fun _ => [])
      (fun i _ m' => (i.1 + (if i.2 = 0 then 0 else Lib.nDigits i.2) = N ∧ i.2 < 1000000000) ∧ m' = PH.mt) (fun i => i.2) (9 * (l.length - 1), l.getD (l.length - 1) 0) (by kernel_rfl) (fun _ => by kernel_rfl) ⟨by kernel_rfl, by kernel_rfl, by kernel_rfl⟩ ⟨⟨by dsimp only; rw [if_neg hnz]; omega, hlow⟩, rfl⟩ ?_
    rintro J ⟨cn, k⟩ hJ u' m' hle ⟨⟨h1, h2⟩, rfl⟩
    simp only at h1 h2 hJ
    by_cases hk : k = 0
    · subst hk
      refine G.gtrF ((0 : Nat) : Int) 0 (by kernel_rfl) (by omega) ?_
      exact G.ret (.int .i64 (cn : Int)) (by kernel_rfl) ⟨rfl, by simp at h1; rw [h1]⟩
    · rw [if_neg hk] at h1
      refine G.gtrT (k : Int) 0 (by kernel_rfl) (by omega) ?_
      have hcn : cn + 1 ≤ 1000000000001 := by omega
      refine G.add (cn : Int) 1 ((cn + 1 : Nat) : Int) (by kernel_rfl) (by omega) (by omega) (by omega) ?_
      refine G.quo (k : Int) 10 ((k / 10 : Nat) : Int) (by kernel_rfl) (by omega) (by omega) (by omega) (by omega) ?_
      refine G.back (by kernel_rfl) (hJ (cn + 1, k / 10) _ _ _ ⟨by kernel_rfl, by kernel_rfl, by kernel_rfl⟩ hle ⟨⟨?_, by dsimp only; omega⟩, rfl⟩ (by dsimp only; omega))
      dsimp only
      by_cases hs : k < 10
      · rw [Lib.nDigits_small hs] at h1; rw [if_pos (by omega)]; omega
      · rw [Lib.nDigits_big hs] at h1; rw [if_neg (by omega)]; omega
structure RevSt (R l : List UInt8) (i : Nat) : Prop where
  len : l.length = R.length
  at_ : ∀ k, k < R.length → l[k]? = if k < i ∨ R.length - i ≤ k then R[R.length - 1 - k]? else R[k]?
theorem RevSt.start (R : List UInt8) : RevSt R R 0 := ⟨rfl, fun k hk => by rw [if_neg (by omega)]⟩
theorem RevSt.step {R l : List UInt8} {i : Nat} (h : RevSt R l i) (hi : i < R.length - 1 - i) : RevSt R ((l.set i (l.getD (R.length - 1 - i) 0)).set (R.length - 1 - i) (l.getD i 0)) (i + 1) := by
  have hl := h.len
  have e1 : l.getD (R.length - 1 - i) 0 = R.getD (R.length - 1 - i) 0 := by
    rw [List.getD_eq_getElem?_getD, h.at_ _ (by omega), if_neg (by omega), List.getD_eq_getElem?_getD]
  have e2 : l.getD i 0 = R.getD i 0 := by
    rw [List.getD_eq_getElem?_getD, h.at_ _ (by omega), if_neg (by omega), List.getD_eq_getElem?_getD]
  refine ⟨by simp [hl], fun k hk => ?_⟩
  rw [List.getElem?_set]
  split
  · rename_i hk2
    subst hk2
    rw [if_pos (by simp; omega), if_pos (by omega), e2, show R.length - 1 - (R.length - 1 - i) = i by omega, List.getElem?_eq_getElem (by omega)]
    rw [List.getD_eq_getElem?_getD, List.getElem?_eq_getElem (by omega)]; rfl
  · rename_i hk2
    rw [List.getElem?_set]
    split
    · rename_i hk3
      subst hk3
      rw [if_pos (by omega), if_pos (by omega), e1]
      rw [List.getD_eq_getElem?_getD, List.getElem?_eq_getElem (by omega)]; rfl
    · rename_i hk3
      rw [h.at_ k hk]
      by_cases hc : k < i ∨ R.length - i ≤ k
      · rw [if_pos hc, if_pos (by omega)]
      · rw [if_neg hc, if_neg (by omega)]
theorem RevSt.done {R l : List UInt8} {i : Nat} (h : RevSt R l i) (hi : ¬ i < R.length - 1 - i) : l = R.reverse := by
  apply List.ext_getElem?
  intro k
  by_cases hk : k < R.length
  · rw [h.at_ k hk, List.getElem?_reverse hk]
    split
    · rfl
    · rename_i hc
      congr 1; omega
  · rw [List.getElem?_eq_none (by rw [h.len]; omega), List.getElem?_eq_none (by simp; omega)]
theorem bytesV_get {l : List UInt8} {j : Nat} (h : j < l.length) : (bytesV l)[j]? = some (.int .u8 ((l.getD j 0).toNat : Int)) := by
  rw [bytesV, List.getElem?_map, List.getElem?_eq_getElem h, List.getD_eq_getElem?_getD, List.getElem?_eq_getElem h]; rfl
theorem bytesV_set (l : List UInt8) (j : Nat) (b : UInt8) : (bytesV l).set j (.int .u8 (b.toNat : Int)) = bytesV (l.set j b) := by simp [bytesV, List.map_set]
theorem itoa_neg {z : Int} (h : z < 0) : Lib.itoa z = 45 :: Lib.decDigits z.natAbs := by rw [Lib.itoa, if_pos h]
theorem itoa_nonneg {z : Int} (h : ¬ z < 0) : Lib.itoa z = Lib.decDigits z.natAbs := by rw [Lib.itoa, if_neg h]; congr 1; omega
set_option maxHeartbeats 2000000 in
theorem bigText0 {u : PH} {x : Value} {z : Int} (h : BigP u x z) (hs : nl z.natAbs ≤ 100000000000) : Fn0 Tryz.prog 115 [x] u fun v _ => v = .string (mkS (Lib.itoa z)) := by
  obtain ⟨b, a, n, c, rfl, hb, hi⟩ := h.opn
  obtain ⟨rfl, _⟩ := hi.len
  have hs' : (limbs z.natAbs).length ≤ 100000000000 := hs
  refine Fn0.of Tryz.func115 (by kernel_rfl) (by kernel_rfl) ?_
  by_cases h0 : z.natAbs = 0
  · refine G.eqlT ((limbs z.natAbs).length : Int) 0 (by kernel_rfl) (by rw [h0, limbs_zero]; rfl) ?_
    exact G.ret (.string (mkS [48])) (by kernel_rfl) ⟨rfl, by rw [itoa_nonneg (by omega), h0, Lib.decDigits_one (by omega)]; rfl⟩
  have hp : 0 < (limbs z.natAbs).length := len_pos.2 (by omega)
  refine G.eqlF ((limbs z.natAbs).length : Int) 0 (by kernel_rfl) (by omega) ?_
  have hbd := lt_pow_limbs z.natAbs
  generalize hN : z.natAbs = N at *
  generalize hL : limbs N = l at *
  refine G.loop (ι := Nat × (Option Addr × Nat × Nat)) (fun i => [(1, .p 0 0), (3, .v (.slice i.2.1 i.2.2.1 i.2.2.2)), (4, .v (.int .i64 (i.1 : Int)))]) (fun _ => [(0, ⟨60, [.v (.bool b), .v (.slice a l.length c)]⟩)])
    (fun i _ m' => i.1 ≤ l.length ∧ ArrAt PH.mt m' (.slice i.2.1 i.2.2.1 i.2.2.2) 5 1 (bytesV (ld N (9 * i.1)))) (fun i => l.length - i.1) (0, (none, 0, 0)) (by kernel_rfl) (fun _ => by kernel_rfl) ⟨by kernel_rfl, by kernel_rfl, by kernel_rfl⟩ ⟨by simp, ArrAt.nil _ _ _⟩ ?_
  rintro J ⟨i, a1, n1, c1⟩ hJ u1 m1 hle ⟨hil, hA⟩
  simp only at hil hA hJ
  by_cases hlt : i < l.length
  · refine G.lssT (i : Int) (l.length : Int) (by kernel_rfl) (by omega) ?_
    obtain ⟨bb, off, rfl, he⟩ := (hi.mono hle).at (j := i) (by omega)
    refine G.addr bb off l.length c i 1 (by kernel_rfl) (by omega) ?_
    refine G.loadU none bb (off + i * 1) (.int .i64 (l.getD i 0 : Nat)) (by kernel_rfl) (by kernel_rfl) he ?_
    have hlow : l.getD i 0 < 1000000000 := by rw [← hL]; exact (low_limbs N).getD i
    refine G.loop (ι := Nat × (Option Addr × Nat × Nat)) (fun q => [(1, .p 0 0), (3, .v (.slice q.2.1 q.2.2.1 q.2.2.2)), (4, .v (.int .i64 (i : Int))), (5, .v (.int .i64 ((l.getD i 0 / 10 ^ q.1 : Nat) : Int))), (6, .v (.int .i64 (q.1 : Int)))]) (fun _ => [(0, ⟨60, [.v (.bool b), .v (.slice (some ⟨bb, off, none⟩) l.length c)]⟩)])
      (fun q _ m' => q.1 ≤ 9 ∧ ArrAt PH.mt m' (.slice q.2.1 q.2.2.1 q.2.2.2) 5 1 (bytesV (ld N (9 * i + q.1)))) (fun q => 9 - q.1) (0, (a1, n1, c1)) (by kernel_rfl) (fun _ => by kernel_rfl) ⟨by kernel_rfl, by rw [Nat.pow_zero, Nat.div_one]; kernel_rfl, by kernel_rfl⟩ ⟨by simp, hA⟩ ?_
    clear hA
    rintro J2 ⟨t, a2, n2, c2⟩ hJ2 u2 m2 hle2 ⟨ht, hA⟩
    simp only at ht hA hJ2
    have hl2 := hA.len
    rw [bytesV_length, ld_length] at hl2
    by_cases ht9 : t < 9
    · refine G.lssT (t : Int) 9 (by kernel_rfl) (by omega) ?_
      have hdv : l.getD i 0 / 10 ^ t < 1000000000 := Nat.lt_of_le_of_lt (Nat.div_le_self _ _) hlow
      have hdg : (Lib.dg N (9 * i + t)).toNat = 48 + l.getD i 0 / 10 ^ t % 10 := by
        rw [dg_limb N i t ht9, hL]; exact u8_ofNat (by omega)
      generalize hD : l.getD i 0 / 10 ^ t = D at hdv hdg ⊢
      refine G.rem ((D : Nat) : Int) 10 ((D % 10 : Nat) : Int) (by kernel_rfl) (by omega) (by omega) (by omega) (by omega) ?_
      refine G.add 48 ((D % 10 : Nat) : Int) ((Lib.dg N (9 * i + t)).toNat : Int) (by kernel_rfl) (by omega) (by omega) (by omega) ?_
      refine G.convI .i64 .u8 .i64 ((Lib.dg N (9 * i + t)).toNat : Int) ((Lib.dg N (9 * i + t)).toNat : Int) (by kernel_rfl) (u8_wrap (by omega) (by omega)) ?_
      refine G.buildU 5 1 1 (.int .u8 0) [.int .u8 ((Lib.dg N (9 * i + t)).toNat : Int)] (by kernel_rfl) (bytesV_ok [Lib.dg N (9 * i + t)]) rfl (by omega) (by simp) (by simp) ?_
      intro g u3 l3 e3
      refine G.append 5 1 1 (.int .u8 0) PH.mt (bytesV (ld N (9 * i + t))) [.int .u8 ((Lib.dg N (9 * i + t)).toNat : Int)] (.slice a2 n2 c2) g 0 1 1 (by kernel_rfl) rfl rfl (by omega) hA e3 (bytesV_ok [Lib.dg N (9 * i + t)]) rfl (by omega) (by rw [bytesV_length, ld_length]; omega) (by rw [bytesV_length, ld_length]; omega) ?_
      intro v4 m4 hA4
      rw [show bytesV (ld N (9 * i + t)) ++ [.int .u8 ((Lib.dg N (9 * i + t)).toNat : Int)] = bytesV (ld N (9 * i + (t + 1))) by rw [show 9 * i + (t + 1) = 9 * i + t + 1 by omega, ld_succ, bytesV_append]; rfl] at hA4
      obtain ⟨a4, c4, rfl⟩ := hA4.shape
      refine G.quo ((D : Nat) : Int) 10 ((l.getD i 0 / 10 ^ (t + 1) : Nat) : Int) (by kernel_rfl) (by omega) (by omega) (by omega) (by rw [Nat.pow_succ, ← Nat.div_div_eq_div_mul, hD]; omega) ?_
      refine G.add (t : Int) 1 ((t + 1 : Nat) : Int) (by kernel_rfl) (by omega) (by omega) (by omega) ?_
      exact G.back (by kernel_rfl) (hJ2 (t + 1, (a4, (bytesV (ld N (9 * i + (t + 1)))).length, c4)) _ _ _ ⟨by kernel_rfl, by kernel_rfl, by kernel_rfl⟩ (hle2.trans l3) ⟨by dsimp only; omega, hA4⟩ (by dsimp only; omega))
    · have : t = 9 := by omega
      subst this
      refine G.lssF ((9 : Nat) : Int) 9 (by kernel_rfl) (by omega) ?_
      refine G.add (i : Int) 1 ((i + 1 : Nat) : Int) (by kernel_rfl) (by omega) (by omega) (by omega) ?_
      exact G.back (by kernel_rfl) (hJ (i + 1, (a2, n2, c2)) _ _ _ ⟨by kernel_rfl, by kernel_rfl, by kernel_rfl⟩ (hle.trans hle2) ⟨by dsimp only; omega, hA⟩ (by dsimp only; omega))
  · have : i = l.length := by omega
    subst this
    refine G.lssF (l.length : Int) (l.length : Int) (by kernel_rfl) (by omega) ?_
    obtain ⟨bo, co, e⟩ := hA.ptr (by intro e; have := congrArg List.length e; rw [bytesV_length, ld_length, List.length_nil] at this; omega)
    rw [bytesV_length, ld_length] at e
    simp only [Value.slice.injEq] at e
    obtain ⟨rfl, rfl, rfl⟩ := e
    refine G.loop (ι := Nat) (fun k => [(1, .p 0 0), (3, .v (.slice (some ⟨bo, 0, none⟩) (k + 1) c1))]) (fun _ => [(0, ⟨60, [.v (.bool b), .v (.slice a l.length c)]⟩)])
      (fun k _ m' => (N < 10 ^ (k + 1) ∧ k + 1 ≤ 9 * l.length) ∧ ArrAt PH.mt m' (.slice (some ⟨bo, 0, none⟩) (k + 1) c1) 5 1 (bytesV (ld N (k + 1)))) (fun k => k) (9 * l.length - 1) (by kernel_rfl) (fun _ => by kernel_rfl) ⟨by kernel_rfl, by rw [show 9 * l.length - 1 + 1 = 9 * l.length by omega]; kernel_rfl, by kernel_rfl⟩ (by rw [show 9 * l.length - 1 + 1 = 9 * l.length by omega]; exact ⟨⟨hbd, Nat.le_refl _⟩, hA⟩) ?_
    clear hA hJ
    rintro J3 k hJ3 u3 m3 hle3 ⟨⟨hk, hk2⟩, hA⟩
    refine G.sub ((k + 1 : Nat) : Int) 1 (k : Int) (by kernel_rfl) (by omega) (by omega) (by omega) ?_
    refine G.addr bo 0 (k + 1) c1 k 1 (by kernel_rfl) (by omega) ?_
    refine G.loadM none bo (0 + k * 1) (.int .u8 ((Lib.dg N k).toNat : Int)) (by kernel_rfl) (by kernel_rfl) (hA.el (by rw [bytesV, List.getElem?_map, ld_get (by omega)]; rfl)) ?_
    have htz := top_zero hk
    have hdn := dg_toNat N k
    by_cases hz : N < 10 ^ k
    · refine G.cmpG .eql .u8 ((Lib.dg N k).toNat : Int) 48 true (by kernel_rfl) rfl (by simp only [cmpZ, decide_eq_true_eq]; have := htz.2 hz; omega) ?_
      refine G.sub ((k + 1 : Nat) : Int) 1 (k : Int) (by kernel_rfl) (by omega) (by omega) (by omega) ?_
      have hco : k + 1 ≤ c1 := hA.cap
      refine G.sliceTo 1 (some ⟨bo, 0, none⟩) (k + 1) c1 k (by kernel_rfl) (by omega) ?_
      have hA' := hA.take (k := k) (by rw [bytesV_length, ld_length]; omega)
      rw [show (bytesV (ld N (k + 1))).take k = bytesV (ld N k) by rw [bytesV, ← List.map_take, ld_take (by omega)]; rfl] at hA'
      rcases k with _ | k
      · simp at hz; omega
      · exact G.back (by kernel_rfl) (hJ3 k _ _ _ ⟨by kernel_rfl, by kernel_rfl, by kernel_rfl⟩ hle3 ⟨⟨hz, by omega⟩, hA'⟩ (by omega))
    · refine G.cmpG .eql .u8 ((Lib.dg N k).toNat : Int) 48 false (by kernel_rfl) rfl (by simp only [cmpZ, decide_eq_false_iff_not]; intro h; exact hz (htz.1 (by omega))) ?_
      have hkd : Lib.nDigits N = k + 1 := Lib.nDigits_unique k N (by omega) hk
      clear hJ3
      have hdr := ld_rev N
      rw [hkd] at hdr
      cases b
      · have hzn : ¬ z < 0 := by simpa using hb.symm
        have hrev : (ld N (k + 1)).reverse = Lib.itoa z := by rw [hdr, itoa_nonneg hzn, hN]
        generalize hR : ld N (k + 1) = R at *
        generalize hnR : k + 1 = nR at *
        have hnb : nR ≤ 1000000000000 := by omega
        have hn1 : 1 ≤ nR := by omega
        have hRl := hA.len
        rw [bytesV_length] at hRl
        refine G.sub (nR : Int) 1 ((nR - 1 : Nat) : Int) (by kernel_rfl) (by omega) (by omega) (by omega) ?_
        refine G.loop (ι := Nat × List UInt8) (fun i => [(3, .v (.slice (some ⟨bo, 0, none⟩) nR c1)), (7, .v (.int .i64 (i.1 : Int))), (8, .v (.int .i64 ((nR - 1 - i.1 : Nat) : Int)))]) (fun _ => [])
          (fun i _ m' => i.1 ≤ nR - 1 ∧ RevSt R i.2 i.1 ∧ ArrAt PH.mt m' (.slice (some ⟨bo, 0, none⟩) nR c1) 5 1 (bytesV i.2)) (fun i => nR - i.1) (0, R) (by kernel_rfl) (fun _ => by kernel_rfl) ⟨by kernel_rfl, by kernel_rfl, by kernel_rfl⟩ ⟨by simp, RevSt.start R, hA⟩ ?_
        clear hA
        rintro J5 ⟨i, l⟩ hJ5 u5 m5 hle5 ⟨hi5, hst, hA⟩
        simp only at hi5 hst hA hJ5
        have hll := hst.len
        by_cases hij : i < nR - 1 - i
        · refine G.lssT (i : Int) ((nR - 1 - i : Nat) : Int) (by kernel_rfl) (by omega) ?_
          refine G.addr bo 0 nR c1 (nR - 1 - i) 1 (by kernel_rfl) (by omega) ?_
          refine G.loadM none bo (0 + (nR - 1 - i) * 1) (.int .u8 ((l.getD (nR - 1 - i) 0).toNat : Int)) (by kernel_rfl) (by kernel_rfl) (hA.el (bytesV_get (by omega))) ?_
          refine G.addr bo 0 nR c1 i 1 (by kernel_rfl) (by omega) ?_
          refine G.loadM none bo (0 + i * 1) (.int .u8 ((l.getD i 0).toNat : Int)) (by kernel_rfl) (by kernel_rfl) (hA.el (bytesV_get (by omega))) ?_
          refine G.addr bo 0 nR c1 i 1 (by kernel_rfl) (by omega) ?_
          refine G.storeA 1 PH.mt (bytesV l) bo nR c1 i (.int .u8 ((l.getD (nR - 1 - i) 0).toNat : Int)) (by kernel_rfl) hA (by rw [bytesV_length]; omega) rfl rfl ?_
          intro m6 hA6
          rw [bytesV_set] at hA6
          refine G.addr bo 0 nR c1 (nR - 1 - i) 1 (by kernel_rfl) (by omega) ?_
          refine G.storeA 1 PH.mt _ bo nR c1 (nR - 1 - i) (.int .u8 ((l.getD i 0).toNat : Int)) (by kernel_rfl) hA6 (by rw [bytesV_length, List.length_set]; omega) rfl rfl ?_
          intro m7 hA7
          rw [bytesV_set] at hA7
          refine G.add (i : Int) 1 ((i + 1 : Nat) : Int) (by kernel_rfl) (by omega) (by omega) (by omega) ?_
          refine G.sub ((nR - 1 - i : Nat) : Int) 1 ((nR - 1 - (i + 1) : Nat) : Int) (by kernel_rfl) (by omega) (by omega) (by omega) ?_
          exact G.back (by kernel_rfl) (hJ5 (i + 1, (l.set i (l.getD (nR - 1 - i) 0)).set (nR - 1 - i) (l.getD i 0)) _ _ _ ⟨by kernel_rfl, by kernel_rfl, by kernel_rfl⟩ hle5 ⟨by dsimp only; omega, by dsimp only; rw [hRl] at hij ⊢; exact hst.step hij, hA7⟩ (by dsimp only; omega))
        · refine G.lssF (i : Int) ((nR - 1 - i : Nat) : Int) (by kernel_rfl) (by omega) ?_
          have hlR := hst.done (by rw [← hRl]; exact hij)
          refine G.convB PH.mt 5 5 l bo nR c1 (by kernel_rfl) (by kernel_rfl) hA ?_
          refine G.give PH.mt (bytesV l) _ (by kernel_rfl) hA (fun _ => .inl rfl) ?_
          intro u8 l8 _
          refine G.ret (.string (mkS l)) (by kernel_rfl) ⟨rfl, ?_⟩
          rw [hlR, hrev]
      · have hzn : z < 0 := by simpa using hb.symm
        refine G.buildU 5 1 1 (.int .u8 0) [.int .u8 45] (by kernel_rfl) (bytesV_ok [45]) rfl (by omega) (by simp) (by simp) ?_
        intro g u4 l4 e4
        refine G.append 5 1 1 (.int .u8 0) PH.mt (bytesV (ld N (k + 1))) [.int .u8 45] (.slice (some ⟨bo, 0, none⟩) (k + 1) c1) g 0 1 1 (by kernel_rfl) rfl rfl (by omega) hA e4 (bytesV_ok [45]) rfl (by omega) (by rw [bytesV_length, ld_length]; omega) (by rw [bytesV_length, ld_length]; omega) ?_
        intro v5 m5 hA5
        rw [show bytesV (ld N (k + 1)) ++ [.int .u8 45] = bytesV (ld N (k + 1) ++ [45]) by rw [bytesV_append]; rfl] at hA5
        obtain ⟨bR, cR, rfl⟩ := hA5.ptr (by simp [bytesV])
        rw [bytesV_length, List.length_append, ld_length, List.length_singleton] at hA5 ⊢
        have hrev : (ld N (k + 1) ++ [45]).reverse = Lib.itoa z := by rw [List.reverse_append, hdr, itoa_neg hzn, hN]; rfl
        clear hA
        have hA := hA5
        clear hA5
        have hlR : (ld N (k + 1) ++ [45]).length = k + 1 + 1 := by rw [List.length_append, ld_length]; rfl
        generalize hR : ld N (k + 1) ++ [45] = R at *
        generalize hnR : k + 1 + 1 = nR at *
        have hnb : nR ≤ 1000000000000 := by omega
        have hn1 : 1 ≤ nR := by omega
        have hRl := hA.len
        rw [bytesV_length] at hRl
        refine G.sub (nR : Int) 1 ((nR - 1 : Nat) : Int) (by kernel_rfl) (by omega) (by omega) (by omega) ?_
        refine G.loop (ι := Nat × List UInt8) (fun i => [(3, .v (.slice (some ⟨bR, 0, none⟩) nR cR)), (7, .v (.int .i64 (i.1 : Int))), (8, .v (.int .i64 ((nR - 1 - i.1 : Nat) : Int)))]) (fun _ => [])
          (fun i _ m' => i.1 ≤ nR - 1 ∧ RevSt R i.2 i.1 ∧ ArrAt PH.mt m' (.slice (some ⟨bR, 0, none⟩) nR cR) 5 1 (bytesV i.2)) (fun i => nR - i.1) (0, R) (by kernel_rfl) (fun _ => by kernel_rfl) ⟨by kernel_rfl, by kernel_rfl, by kernel_rfl⟩ ⟨by simp, RevSt.start R, hA⟩ ?_
        clear hA
        rintro J5 ⟨i, l⟩ hJ5 u5 m5 hle5 ⟨hi5, hst, hA⟩
        simp only at hi5 hst hA hJ5
        have hll := hst.len
        by_cases hij : i < nR - 1 - i
        · refine G.lssT (i : Int) ((nR - 1 - i : Nat) : Int) (by kernel_rfl) (by omega) ?_
          refine G.addr bR 0 nR cR (nR - 1 - i) 1 (by kernel_rfl) (by omega) ?_
          refine G.loadM none bR (0 + (nR - 1 - i) * 1) (.int .u8 ((l.getD (nR - 1 - i) 0).toNat : Int)) (by kernel_rfl) (by kernel_rfl) (hA.el (bytesV_get (by omega))) ?_
          refine G.addr bR 0 nR cR i 1 (by kernel_rfl) (by omega) ?_
          refine G.loadM none bR (0 + i * 1) (.int .u8 ((l.getD i 0).toNat : Int)) (by kernel_rfl) (by kernel_rfl) (hA.el (bytesV_get (by omega))) ?_
          refine G.addr bR 0 nR cR i 1 (by kernel_rfl) (by omega) ?_
          refine G.storeA 1 PH.mt (bytesV l) bR nR cR i (.int .u8 ((l.getD (nR - 1 - i) 0).toNat : Int)) (by kernel_rfl) hA (by rw [bytesV_length]; omega) rfl rfl ?_
          intro m6 hA6
          rw [bytesV_set] at hA6
          refine G.addr bR 0 nR cR (nR - 1 - i) 1 (by kernel_rfl) (by omega) ?_
          refine G.storeA 1 PH.mt _ bR nR cR (nR - 1 - i) (.int .u8 ((l.getD i 0).toNat : Int)) (by kernel_rfl) hA6 (by rw [bytesV_length, List.length_set]; omega) rfl rfl ?_
          intro m7 hA7
          rw [bytesV_set] at hA7
          refine G.add (i : Int) 1 ((i + 1 : Nat) : Int) (by kernel_rfl) (by omega) (by omega) (by omega) ?_
          refine G.sub ((nR - 1 - i : Nat) : Int) 1 ((nR - 1 - (i + 1) : Nat) : Int) (by kernel_rfl) (by omega) (by omega) (by omega) ?_
          exact G.back (by kernel_rfl) (hJ5 (i + 1, (l.set i (l.getD (nR - 1 - i) 0)).set (nR - 1 - i) (l.getD i 0)) _ _ _ ⟨by kernel_rfl, by kernel_rfl, by kernel_rfl⟩ hle5 ⟨by dsimp only; omega, by dsimp only; rw [hRl] at hij ⊢; exact hst.step hij, hA7⟩ (by dsimp only; omega))
        · refine G.lssF (i : Int) ((nR - 1 - i : Nat) : Int) (by kernel_rfl) (by omega) ?_
          have hlR := hst.done (by rw [← hRl]; exact hij)
          refine G.convB PH.mt 5 5 l bR nR cR (by kernel_rfl) (by kernel_rfl) hA ?_
          refine G.give PH.mt (bytesV l) _ (by kernel_rfl) hA (fun _ => .inl rfl) ?_
          intro u8 l8 _
          refine G.ret (.string (mkS l)) (by kernel_rfl) ⟨rfl, ?_⟩
          rw [hlR, hrev]
theorem bigGive0 {u : PH} {x : Value} {z : Int} (h : BigP u x z) (hs : nl z.natAbs ≤ 100000000000) (hd : Lib.nDigits z.natAbs ≤ 400) : Fn0 Tryz.prog 60 [x] u fun v _ => v = .tuple #[.string (mkS (Lib.itoa z)), .int .i64 0] := by
  obtain ⟨b, a, n, c, rfl, hb, hi⟩ := h.opn
  refine Fn0.of Tryz.func60 (by kernel_rfl) (by kernel_rfl) ?_
  refine G.call0 _ _ (by kernel_rfl) Tryz.call114 (bigDigits0 h hs) ?_
  rintro v1 u1 l1 rfl
  refine G.gtrF ((Lib.nDigits z.natAbs : Nat) : Int) 400 (by kernel_rfl) (by omega) ?_
  refine G.call0 _ _ (by kernel_rfl) Tryz.call115 (bigText0 (h.mono l1) hs) ?_
  rintro v2 u2 l2 rfl
  exact G.ret _ (by kernel_rfl) ⟨rfl, rfl⟩
end Go.Proofs.YtikfmknnbjocmaaGreatDoor
end
section
set_option linter.unusedSectionVars false
set_option linter.unusedVariables false
namespace Go.Proofs.YtikfmknnbjocmaaGreatDoor
open Go.RowKit
theorem IsDig.drop {l : List UInt8} (h : IsDig l) (k : Nat) : IsDig (l.drop k) := fun b hb => h b (List.mem_of_mem_drop hb)
theorem IsDig.take {l : List UInt8} (h : IsDig l) (k : Nat) : IsDig (l.take k) := fun b hb => h b (List.mem_of_mem_take hb)
theorem take_succ_drop {l : List UInt8} {k j : Nat} (h : k + j < l.length) : (l.drop k).take (j + 1) = (l.drop k).take j ++ [l.getD (k + j) 0] := by
  rw [List.take_add_one]
  congr 1
  rw [List.getElem?_drop, List.getElem?_eq_getElem h, List.getD_eq_getElem?_getD, List.getElem?_eq_getElem h]; rfl
theorem rd_snoc (l : List UInt8) (b : UInt8) : rd (l ++ [b]) = 10 * rd l + (b.toNat - 48) := by simp [rd, rdA]
theorem getD_dig {l : List UInt8} (h : IsDig l) {k : Nat} (hk : k < l.length) : 48 ≤ (l.getD k 0).toNat ∧ (l.getD k 0).toNat ≤ 57 := by
  rw [List.getD_eq_getElem?_getD, List.getElem?_eq_getElem hk]; exact h _ (List.getElem_mem hk)
theorem get_of_getD {l : List UInt8} {k : Nat} (hk : k < l.length) : l[k]? = some (l.getD k 0) := by
  rw [List.getD_eq_getElem?_getD, List.getElem?_eq_getElem hk]; rfl
def signed (b : Bool) (l : List UInt8) : List UInt8 := if b then 45 :: l else l
structure ReadSt (N : Nat) (s : List UInt8) (ys : List Nat) : Prop where
  low : Low ys
  dig : IsDig s
  sum : N = val ys + 1000000000 ^ ys.length * rd s
theorem ReadSt.step {N : Nat} {s : List UInt8} {ys : List Nat} (h : ReadSt N s ys) : ReadSt N (s.take (s.length - 9)) (ys ++ [rd (s.drop (s.length - 9))]) := by
  have hl : rd (s.drop (s.length - 9)) < 1000000000 := by
    have := rd_lt (h.dig.drop (s.length - 9))
    rw [List.length_drop] at this
    exact Nat.lt_of_lt_of_le this (by rw [show (1000000000 : Nat) = 10 ^ 9 from rfl]; exact Nat.pow_le_pow_right (by omega) (by omega))
  refine ⟨h.low.append (Low.cons hl Low.nil), h.dig.take _, ?_⟩
  have e : rd s = rd (s.take (s.length - 9)) * 1000000000 + rd (s.drop (s.length - 9)) := by
    have := rd_append (s.take (s.length - 9)) (s.drop (s.length - 9))
    rw [List.take_append_drop] at this
    rw [this]
    by_cases h9 : 9 ≤ s.length
    · rw [List.length_drop, show s.length - (s.length - 9) = 9 by omega]
    · rw [show s.length - 9 = 0 by omega]; simp [rd, rdA]
  rw [val_snoc, List.length_append, List.length_singleton, Nat.pow_succ, h.sum, e, Nat.mul_add, Nat.mul_assoc, Nat.mul_comm (rd _) 1000000000]
  omega
theorem tail_pos {b : Bool} {l : List UInt8} (hd : IsDig l) (hl : l ≠ []) (h : ¬ b = true) : (signed b l).getD 0 0 ≠ 45 := by
  cases b
  · have h1 : 0 < l.length := by cases l; exact absurd rfl hl; simp
    have := getD_dig hd h1
    intro h2
    rw [show signed false l = l from rfl] at h2
    rw [h2] at this
    simp at this
  · exact absurd rfl h
set_option maxHeartbeats 2000000 in
theorem bigRead0 {u : PH} (b : Bool) (l : List UInt8) (hd : IsDig l) (hl : l ≠ []) (hlen : l.length ≤ 1000000000) : Fn0 Tryz.prog 57 [.string (mkS (signed b l))] u fun v u' => BigP u' v (sgnd b (rd l)) := by
  have hl0 : 0 < l.length := by cases l; exact absurd rfl hl; simp
  refine Fn0.of Tryz.func57 (by kernel_rfl) (by kernel_rfl) ?_
  have hne : signed b l ≠ [] := by cases b <;> simp [signed, hl]
  refine G.neST (signed b l) [] (by kernel_rfl) hne ?_
  have h00 : (signed b l)[0]? = some ((signed b l).getD 0 0) := get_of_getD (by cases b <;> simp [signed]; omega)
  refine G.idxS (signed b l) 0 _ (by kernel_rfl) h00 ?_
  cases b
  · have hne := tail_pos (b := false) hd hl (by simp)
    refine G.cmpG .eql .u8 (((signed false l).getD 0 0).toNat : Int) 45 false (by kernel_rfl) rfl (by simp only [cmpZ, decide_eq_false_iff_not]; intro h; exact hne (UInt8.toNat_inj.1 (by simpa using (by omega : ((signed false l).getD 0 0).toNat = 45)))) ?_
    refine G.loop (ι := List UInt8 × List Nat × (Option Addr × Nat × Nat)) (fun i => [(2, .p 0 0), (3, .v (.string (mkS i.1))), (4, .p 2001 0)])
      (fun i => [(0, ⟨60, [.v (.bool false), .v (.slice none 0 0)]⟩), (2001, ⟨60, [.v (.bool false), .v (.slice i.2.2.1 i.2.2.2.1 i.2.2.2.2)]⟩)])
      (fun i _ m' => i.1.length + i.2.1.length ≤ l.length ∧ ReadSt (rd l) i.1 i.2.1 ∧ ArrAt PH.mt m' (.slice i.2.2.1 i.2.2.2.1 i.2.2.2.2) 3 1 (intsV i.2.1)) (fun i => i.1.length) (l, [], (none, 0, 0)) (by kernel_rfl) (fun _ => by kernel_rfl) ⟨by kernel_rfl, by kernel_rfl, by kernel_rfl⟩ ⟨by simp, ⟨Low.nil, hd, by simp [val]⟩, ArrAt.nil _ _ _⟩ ?_
    rintro J ⟨s, ys, ⟨a, ny, c⟩⟩ hJ u' m' hle ⟨hsz, hst, hA⟩
    simp only at hsz hst hA hJ
    have hys := hA.len
    rw [intsV_length] at hys
    have hsd := hst.dig
    have hss : (mkS s).size = s.length := Go.Lib.size_mk s
    by_cases h0 : 0 < s.length
    · refine G.gtrT (s.length : Int) 0 (by kernel_rfl) (by omega) ?_
      refine G.sub (s.length : Int) 9 ((s.length : Int) - 9) (by kernel_rfl) rfl (by omega) (by omega) ?_
      refine G.maxI [3, 3] 0 ((s.length : Int) - 9) ((s.length - 9 : Nat) : Int) (by kernel_rfl) (by omega) ?_
      refine G.loop (ι := Nat) (fun i => [(2, .p 0 0), (3, .v (.string (mkS s))), (4, .p 2001 0), (5, .v (.int .i64 ((s.length - 9 : Nat) : Int))), (6, .v (.int .i64 ((rd ((s.drop (s.length - 9)).take i) : Nat) : Int))), (7, .v (.int .i64 ((s.length - 9 + i : Nat) : Int)))])
        (fun _ => [(0, ⟨60, [.v (.bool false), .v (.slice none 0 0)]⟩), (2001, ⟨60, [.v (.bool false), .v (.slice a ny c)]⟩)])
        (fun i _ m' => s.length - 9 + i ≤ s.length ∧ ArrAt PH.mt m' (.slice a ny c) 3 1 (intsV ys)) (fun i => s.length - i) 0 (by kernel_rfl) (fun _ => by kernel_rfl) ⟨by kernel_rfl, by rw [List.take_zero]; kernel_rfl, by kernel_rfl⟩ ⟨by omega, hA⟩ ?_
      clear hA
      rintro J2 i hJ2 u2 m2 hle2 ⟨hi, hA⟩
      by_cases hlt : s.length - 9 + i < s.length
      · refine G.lssT ((s.length - 9 + i : Nat) : Int) (s.length : Int) (by kernel_rfl) (by omega) ?_
        have hb9 : rd ((s.drop (s.length - 9)).take (i + 1)) < 1000000000 := by
          have := rd_lt ((hsd.drop (s.length - 9)).take (i + 1))
          refine Nat.lt_of_lt_of_le this ?_
          rw [show (1000000000 : Nat) = 10 ^ 9 from rfl]
          exact Nat.pow_le_pow_right (by omega) (by simp; omega)
        have hdg := getD_dig hsd hlt
        rw [take_succ_drop hlt, rd_snoc] at hb9
        refine G.mul 10 ((rd ((s.drop (s.length - 9)).take i) : Nat) : Int) ((10 * rd ((s.drop (s.length - 9)).take i) : Nat) : Int) (by kernel_rfl) (by omega) (by omega) (by omega) ?_
        refine G.idxS s (s.length - 9 + i) _ (by kernel_rfl) (get_of_getD hlt) ?_
        refine G.sub8 ((s.getD (s.length - 9 + i) 0).toNat : Int) 48 (((s.getD (s.length - 9 + i) 0).toNat - 48 : Nat) : Int) (by kernel_rfl) (by omega) (by omega) (by omega) ?_
        refine G.convI .u8 .i64 .u8 (((s.getD (s.length - 9 + i) 0).toNat - 48 : Nat) : Int) (((s.getD (s.length - 9 + i) 0).toNat - 48 : Nat) : Int) (by kernel_rfl) (i64_wrap (by omega) (by omega)) ?_
        refine G.add ((10 * rd ((s.drop (s.length - 9)).take i) : Nat) : Int) (((s.getD (s.length - 9 + i) 0).toNat - 48 : Nat) : Int) ((rd ((s.drop (s.length - 9)).take (i + 1)) : Nat) : Int) (by kernel_rfl) (by rw [take_succ_drop hlt, rd_snoc]; omega) (by omega) (by rw [take_succ_drop hlt, rd_snoc]; omega) ?_
        refine G.add ((s.length - 9 + i : Nat) : Int) 1 ((s.length - 9 + (i + 1) : Nat) : Int) (by kernel_rfl) (by omega) (by omega) (by omega) ?_
        exact G.back (by kernel_rfl) (hJ2 (i + 1) _ _ _ ⟨by kernel_rfl, by kernel_rfl, by kernel_rfl⟩ hle2 ⟨by omega, hA⟩ (by omega))
      · refine G.lssF ((s.length - 9 + i : Nat) : Int) (s.length : Int) (by kernel_rfl) (by omega) ?_
        have htk : (s.drop (s.length - 9)).take i = s.drop (s.length - 9) := List.take_of_length_le (by simp; omega)
        rw [htk]
        have hstep := hst.step
        have hsl : (s.take (s.length - 9)).length = s.length - 9 := by simp
        generalize rd (s.drop (s.length - 9)) = d at hstep ⊢
        refine G.buildU 3 1 8 (.int .i64 0) [.int .i64 (d : Int)] (by kernel_rfl) (intsV_ok [d]) rfl (by omega) (by simp) (by simp) ?_
        intro g u3 l3 e3
        refine G.append 3 1 8 (.int .i64 0) PH.mt (intsV ys) [.int .i64 (d : Int)] (.slice a ny c) g 0 1 1 (by kernel_rfl) rfl rfl (by omega) hA e3 (intsV_ok [d]) rfl (by omega) (by rw [intsV_length]; omega) (by rw [intsV_length]; omega) ?_
        intro v4 m4 hA4
        rw [intsV_snoc] at hA4
        obtain ⟨a4, c4, rfl⟩ := hA4.shape
        refine G.sliceSTo s (s.length - 9) (by kernel_rfl) (by kernel_rfl) (by omega) ?_
        exact G.back (by kernel_rfl) (hJ (s.take (s.length - 9), ys ++ [d], (a4, (intsV (ys ++ [d])).length, c4)) _ _ _ ⟨by kernel_rfl, by kernel_rfl, by kernel_rfl⟩ ((hle.trans hle2).trans l3) ⟨by dsimp only; rw [hsl, List.length_append, List.length_singleton]; omega, hstep, hA4⟩ (by dsimp only; rw [hsl]; omega))
    · have hs0 : s = [] := List.eq_nil_of_length_eq_zero (by omega)
      subst hs0
      refine G.gtrF ((0 : Nat) : Int) 0 (by kernel_rfl) (by omega) ?_
      refine G.give PH.mt (intsV ys) _ (by kernel_rfl) hA (fun _ => .inl rfl) ?_
      intro u3 l3 hL
      refine G.call0 _ _ (by kernel_rfl) Tryz.call110 (bigTrimB (b := false) (a := a) (n := ny) (c := c) (l := ys) hL hst.low (by omega)) ?_
      intro v5 u5 l5 k5
      have hv : val ys = rd l := by have := hst.sum; simpa [rd, rdA] using this.symm
      rw [hv] at k5
      obtain ⟨b5, a5, n5, c5, rfl, _, _⟩ := k5.opn
      exact G.ret (.agg #[.bool b5, .slice a5 n5 c5]) (by kernel_rfl) ⟨rfl, k5⟩
  · refine G.cmpG .eql .u8 (((signed true l).getD 0 0).toNat : Int) 45 true (by kernel_rfl) rfl (by simp [cmpZ, signed]) ?_
    refine G.sliceSFrom (signed true l) 1 (by kernel_rfl) (by kernel_rfl) (by simp [signed]) ?_
    rw [show (signed true l).drop 1 = l from rfl]
    refine G.loop (ι := List UInt8 × List Nat × (Option Addr × Nat × Nat)) (fun i => [(2, .p 0 0), (3, .v (.string (mkS i.1))), (4, .p 2001 0)])
      (fun i => [(0, ⟨60, [.v (.bool false), .v (.slice none 0 0)]⟩), (2001, ⟨60, [.v (.bool true), .v (.slice i.2.2.1 i.2.2.2.1 i.2.2.2.2)]⟩)])
      (fun i _ m' => i.1.length + i.2.1.length ≤ l.length ∧ ReadSt (rd l) i.1 i.2.1 ∧ ArrAt PH.mt m' (.slice i.2.2.1 i.2.2.2.1 i.2.2.2.2) 3 1 (intsV i.2.1)) (fun i => i.1.length) (l, [], (none, 0, 0)) (by kernel_rfl) (fun _ => by kernel_rfl) ⟨by kernel_rfl, by kernel_rfl, by kernel_rfl⟩ ⟨by simp, ⟨Low.nil, hd, by simp [val]⟩, ArrAt.nil _ _ _⟩ ?_
    rintro J ⟨s, ys, ⟨a, ny, c⟩⟩ hJ u' m' hle ⟨hsz, hst, hA⟩
    simp only at hsz hst hA hJ
    have hys := hA.len
    rw [intsV_length] at hys
    have hsd := hst.dig
    have hss : (mkS s).size = s.length := Go.Lib.size_mk s
    by_cases h0 : 0 < s.length
    · refine G.gtrT (s.length : Int) 0 (by kernel_rfl) (by omega) ?_
      refine G.sub (s.length : Int) 9 ((s.length : Int) - 9) (by kernel_rfl) rfl (by omega) (by omega) ?_
      refine G.maxI [3, 3] 0 ((s.length : Int) - 9) ((s.length - 9 : Nat) : Int) (by kernel_rfl) (by omega) ?_
      refine G.loop (ι := Nat) (fun i => [(2, .p 0 0), (3, .v (.string (mkS s))), (4, .p 2001 0), (5, .v (.int .i64 ((s.length - 9 : Nat) : Int))), (6, .v (.int .i64 ((rd ((s.drop (s.length - 9)).take i) : Nat) : Int))), (7, .v (.int .i64 ((s.length - 9 + i : Nat) : Int)))])
        (fun _ => [(0, ⟨60, [.v (.bool false), .v (.slice none 0 0)]⟩), (2001, ⟨60, [.v (.bool true), .v (.slice a ny c)]⟩)])
        (fun i _ m' => s.length - 9 + i ≤ s.length ∧ ArrAt PH.mt m' (.slice a ny c) 3 1 (intsV ys)) (fun i => s.length - i) 0 (by kernel_rfl) (fun _ => by kernel_rfl) ⟨by kernel_rfl, by rw [List.take_zero]; kernel_rfl, by kernel_rfl⟩ ⟨by omega, hA⟩ ?_
      clear hA
      rintro J2 i hJ2 u2 m2 hle2 ⟨hi, hA⟩
      by_cases hlt : s.length - 9 + i < s.length
      · refine G.lssT ((s.length - 9 + i : Nat) : Int) (s.length : Int) (by kernel_rfl) (by omega) ?_
        have hb9 : rd ((s.drop (s.length - 9)).take (i + 1)) < 1000000000 := by
          have := rd_lt ((hsd.drop (s.length - 9)).take (i + 1))
          refine Nat.lt_of_lt_of_le this ?_
          rw [show (1000000000 : Nat) = 10 ^ 9 from rfl]
          exact Nat.pow_le_pow_right (by omega) (by simp; omega)
        have hdg := getD_dig hsd hlt
        rw [take_succ_drop hlt, rd_snoc] at hb9
        refine G.mul 10 ((rd ((s.drop (s.length - 9)).take i) : Nat) : Int) ((10 * rd ((s.drop (s.length - 9)).take i) : Nat) : Int) (by kernel_rfl) (by omega) (by omega) (by omega) ?_
        refine G.idxS s (s.length - 9 + i) _ (by kernel_rfl) (get_of_getD hlt) ?_
        refine G.sub8 ((s.getD (s.length - 9 + i) 0).toNat : Int) 48 (((s.getD (s.length - 9 + i) 0).toNat - 48 : Nat) : Int) (by kernel_rfl) (by omega) (by omega) (by omega) ?_
        refine G.convI .u8 .i64 .u8 (((s.getD (s.length - 9 + i) 0).toNat - 48 : Nat) : Int) (((s.getD (s.length - 9 + i) 0).toNat - 48 : Nat) : Int) (by kernel_rfl) (i64_wrap (by omega) (by omega)) ?_
        refine G.add ((10 * rd ((s.drop (s.length - 9)).take i) : Nat) : Int) (((s.getD (s.length - 9 + i) 0).toNat - 48 : Nat) : Int) ((rd ((s.drop (s.length - 9)).take (i + 1)) : Nat) : Int) (by kernel_rfl) (by rw [take_succ_drop hlt, rd_snoc]; omega) (by omega) (by rw [take_succ_drop hlt, rd_snoc]; omega) ?_
        refine G.add ((s.length - 9 + i : Nat) : Int) 1 ((s.length - 9 + (i + 1) : Nat) : Int) (by kernel_rfl) (by omega) (by omega) (by omega) ?_
        exact G.back (by kernel_rfl) (hJ2 (i + 1) _ _ _ ⟨by kernel_rfl, by kernel_rfl, by kernel_rfl⟩ hle2 ⟨by omega, hA⟩ (by omega))
      · refine G.lssF ((s.length - 9 + i : Nat) : Int) (s.length : Int) (by kernel_rfl) (by omega) ?_
        have htk : (s.drop (s.length - 9)).take i = s.drop (s.length - 9) := List.take_of_length_le (by simp; omega)
        rw [htk]
        have hstep := hst.step
        have hsl : (s.take (s.length - 9)).length = s.length - 9 := by simp
        generalize rd (s.drop (s.length - 9)) = d at hstep ⊢
        refine G.buildU 3 1 8 (.int .i64 0) [.int .i64 (d : Int)] (by kernel_rfl) (intsV_ok [d]) rfl (by omega) (by simp) (by simp) ?_
        intro g u3 l3 e3
        refine G.append 3 1 8 (.int .i64 0) PH.mt (intsV ys) [.int .i64 (d : Int)] (.slice a ny c) g 0 1 1 (by kernel_rfl) rfl rfl (by omega) hA e3 (intsV_ok [d]) rfl (by omega) (by rw [intsV_length]; omega) (by rw [intsV_length]; omega) ?_
        intro v4 m4 hA4
        rw [intsV_snoc] at hA4
        obtain ⟨a4, c4, rfl⟩ := hA4.shape
        refine G.sliceSTo s (s.length - 9) (by kernel_rfl) (by kernel_rfl) (by omega) ?_
        exact G.back (by kernel_rfl) (hJ (s.take (s.length - 9), ys ++ [d], (a4, (intsV (ys ++ [d])).length, c4)) _ _ _ ⟨by kernel_rfl, by kernel_rfl, by kernel_rfl⟩ ((hle.trans hle2).trans l3) ⟨by dsimp only; rw [hsl, List.length_append, List.length_singleton]; omega, hstep, hA4⟩ (by dsimp only; rw [hsl]; omega))
    · have hs0 : s = [] := List.eq_nil_of_length_eq_zero (by omega)
      subst hs0
      refine G.gtrF ((0 : Nat) : Int) 0 (by kernel_rfl) (by omega) ?_
      refine G.give PH.mt (intsV ys) _ (by kernel_rfl) hA (fun _ => .inl rfl) ?_
      intro u3 l3 hL
      refine G.call0 _ _ (by kernel_rfl) Tryz.call110 (bigTrimB (b := true) (a := a) (n := ny) (c := c) (l := ys) hL hst.low (by omega)) ?_
      intro v5 u5 l5 k5
      have hv : val ys = rd l := by have := hst.sum; simpa [rd, rdA] using this.symm
      rw [hv] at k5
      obtain ⟨b5, a5, n5, c5, rfl, _, _⟩ := k5.opn
      exact G.ret (.agg #[.bool b5, .slice a5 n5 c5]) (by kernel_rfl) ⟨rfl, k5⟩
end Go.Proofs.YtikfmknnbjocmaaGreatDoor
end
section
set_option linter.unusedSectionVars false
set_option linter.unusedVariables false
namespace Go.Proofs.YtikfmknnbjocmaaGreatDoor
open Go.RowKit
theorem itoa_signed (z : Int) : Lib.itoa z = signed (decide (z < 0)) (Lib.decDigits z.natAbs) := by
  by_cases h : z < 0
  · rw [itoa_neg h, decide_eq_true h]; rfl
  · rw [itoa_nonneg h, decide_eq_false h]; rfl
theorem sgnd_itoa (z : Int) : sgnd (decide (z < 0)) (rd (Lib.decDigits z.natAbs)) = z := by rw [rd_dec]; exact sgnd_self z
theorem nl_of_digk {n k : Nat} (h : Lib.nDigits n ≤ k) : nl n ≤ k := by
  refine nl_le_of_lt (Nat.lt_of_lt_of_le (Lib.lt_pow_nDigits n) ?_)
  rw [ten9]; exact Nat.pow_le_pow_right (by omega) (by omega)
theorem nl_of_dig {n : Nat} (h : Lib.nDigits n ≤ 400) : nl n ≤ 400 := nl_of_digk h
theorem itoa_len {z : Int} (h : Lib.nDigits z.natAbs ≤ 400) : (Lib.itoa z).length ≤ 401 := by
  rw [itoa_signed]; unfold signed; split <;> simp [Lib.decDigits_length] <;> omega
theorem bigReadT {u : PH} {z : Int} (h : Lib.nDigits z.natAbs ≤ 400) : Fn0 Tryz.prog 57 [.string (mkS (Lib.itoa z))] u fun v u' => BigP u' v z := by
  have := bigRead0 (u := u) (decide (z < 0)) (Lib.decDigits z.natAbs) (dec_dig _) (dec_ne_nil _) (by rw [Lib.decDigits_length]; omega)
  rw [sgnd_itoa, ← itoa_signed] at this
  exact this
theorem dec_zero : Lib.decDigits 0 = [48] := Lib.decDigits_one (by omega)
theorem dec_onee : Lib.decDigits 1 = [49] := Lib.decDigits_one (by omega)
theorem itoa_zero : Lib.itoa 0 = [48] := by rw [itoa_nonneg (by omega)]; exact dec_zero
theorem itoa_one : Lib.itoa 1 = [49] := by rw [itoa_nonneg (by omega)]; exact dec_onee
theorem itoa_nat (n : Nat) : Lib.itoa (n : Int) = Lib.decDigits n := by rw [itoa_nonneg (by omega)]; congr 1
def rdZ (t : List UInt8) : Int := match t with
  | 45 :: l => -(rd l : Int)
  | l => rd l
theorem rdZ_itoa (z : Int) : rdZ (Lib.itoa z) = z := by
  by_cases h : z < 0
  · rw [itoa_neg h]; simp only [rdZ, rd_dec]; omega
  · rw [itoa_nonneg h]
    have h1 := dec_head z.natAbs
    have h2 := rd_dec z.natAbs
    have h3 := dec_dig z.natAbs
    generalize Lib.decDigits z.natAbs = l at *
    cases l with
    | nil => simp at h1
    | cons b l =>
      have hb := h3 b (by simp)
      unfold rdZ
      split
      · rename_i e; simp at e; rw [e.1] at hb; simp at hb
      · rw [h2]; omega
theorem itoa_inj {y z : Int} (h : Lib.itoa y = Lib.itoa z) : y = z := by rw [← rdZ_itoa y, h, rdZ_itoa]
theorem itoa_first {z : Int} (hz : 0 ≤ z) (h0 : z ≠ 0) : ∃ b, (Lib.itoa z)[0]? = some b ∧ 49 ≤ b.toNat ∧ b.toNat ≤ 57 := by
  rw [itoa_nonneg (by omega)]
  refine ⟨_, dec_head _, dec_first (by omega), ?_⟩
  rw [dg_toNat]; have := Nat.mod_lt (z.natAbs / 10 ^ (Lib.nDigits z.natAbs - 1)) (show 0 < 10 by omega); omega
theorem bigValid0 {u : PH} {z : Int} (h : Lib.nDigits z.natAbs ≤ 400) : Fn0 Tryz.prog 142 [.string (mkS (Lib.itoa z))] u fun v _ => v = .bool true := by
  refine Fn0.of Tryz.func142 (by kernel_rfl) (by kernel_rfl) ?_
  by_cases h0 : z = 0
  · subst h0
    refine G.eqST (Lib.itoa 0) [48] (by kernel_rfl) itoa_zero ?_
    exact G.ret (.bool true) (by kernel_rfl) ⟨rfl, rfl⟩
  refine G.eqSF (Lib.itoa z) [48] (by kernel_rfl) (fun e => h0 (itoa_inj (e.trans itoa_zero.symm))) ?_
  have hsize : (mkS (Lib.itoa z)).size = (Lib.itoa z).length := Go.Lib.size_mk _
  have hlen := itoa_len h
  have hdl := Lib.decDigits_length z.natAbs
  have hdp := Lib.nDigits_pos z.natAbs
  have hdd := dec_dig z.natAbs
  obtain ⟨b0, hb0, hb1, hb2⟩ := itoa_first (z := (z.natAbs : Int)) (by omega) (by omega)
  rw [itoa_nat] at hb0
  have hs := itoa_signed z
  generalize hL : Lib.decDigits z.natAbs = L at *
  generalize hT : Lib.itoa z = T at *
  have hTl : 0 < T.length := by rw [hs]; unfold signed; split; simp; omega
  refine G.gtrT (T.length : Int) 0 (by kernel_rfl) (by omega) ?_
  by_cases hz : z < 0
  · rw [decide_eq_true hz] at hs
    refine G.idxS T 0 45 (by kernel_rfl) (by rw [hs]; rfl) ?_
    refine G.cmpG .eql .u8 45 45 true (by kernel_rfl) rfl rfl ?_
    refine G.sliceSFrom T 1 (by kernel_rfl) (by kernel_rfl) (by omega) ?_
    rw [show T.drop 1 = L by rw [hs]; rfl]
    refine G.eqlF (L.length : Int) 0 (by kernel_rfl) (by omega) ?_
    refine G.gtrF (L.length : Int) 400 (by kernel_rfl) (by omega) ?_
    refine G.idxS L 0 b0 (by kernel_rfl) hb0 ?_
    refine G.cmpG .eql .u8 (b0.toNat : Int) 48 false (by kernel_rfl) rfl (by simp only [cmpZ, decide_eq_false_iff_not]; omega) ?_
    refine G.loop (ι := Nat) (fun i => [(3, .v (.string (mkS L))), (4, .v (.int .i64 (i : Int)))]) (fun _ => []) (fun i _ m' => i ≤ L.length ∧ m' = PH.mt) (fun i => L.length - i) 0 (by kernel_rfl) (fun _ => by kernel_rfl) ⟨by kernel_rfl, by kernel_rfl, by kernel_rfl⟩ ⟨by omega, rfl⟩ ?_
    rintro J i hJ u' m' hle ⟨hi, rfl⟩
    by_cases hlt : i < L.length
    · refine G.lssT (i : Int) (L.length : Int) (by kernel_rfl) (by omega) ?_
      have hg := getD_dig hdd hlt
      refine G.idxS L i _ (by kernel_rfl) (get_of_getD hlt) ?_
      refine G.cmpG .lss .u8 ((L.getD i 0).toNat : Int) 48 false (by kernel_rfl) rfl (by simp only [cmpZ, decide_eq_false_iff_not]; omega) ?_
      refine G.idxS L i _ (by kernel_rfl) (get_of_getD hlt) ?_
      refine G.cmpG .gtr .u8 ((L.getD i 0).toNat : Int) 57 false (by kernel_rfl) rfl (by simp only [cmpZ, decide_eq_false_iff_not]; omega) ?_
      refine G.add (i : Int) 1 ((i + 1 : Nat) : Int) (by kernel_rfl) (by omega) (by omega) (by omega) ?_
      exact G.back (by kernel_rfl) (hJ (i + 1) _ _ _ ⟨by kernel_rfl, by kernel_rfl, by kernel_rfl⟩ hle ⟨by omega, rfl⟩ (by omega))
    · refine G.lssF (i : Int) (L.length : Int) (by kernel_rfl) (by omega) ?_
      exact G.ret (.bool true) (by kernel_rfl) ⟨rfl, rfl⟩
  · rw [decide_eq_false hz] at hs
    have hTL : T = L := hs
    subst hTL
    refine G.idxS T 0 b0 (by kernel_rfl) hb0 ?_
    refine G.cmpG .eql .u8 (b0.toNat : Int) 45 false (by kernel_rfl) rfl (by simp only [cmpZ, decide_eq_false_iff_not]; omega) ?_
    refine G.eqlF (T.length : Int) 0 (by kernel_rfl) (by omega) ?_
    refine G.gtrF (T.length : Int) 400 (by kernel_rfl) (by omega) ?_
    refine G.idxS T 0 b0 (by kernel_rfl) hb0 ?_
    refine G.cmpG .eql .u8 (b0.toNat : Int) 48 false (by kernel_rfl) rfl (by simp only [cmpZ, decide_eq_false_iff_not]; omega) ?_
    refine G.loop (ι := Nat) (fun i => [(3, .v (.string (mkS T))), (4, .v (.int .i64 (i : Int)))]) (fun _ => []) (fun i _ m' => i ≤ T.length ∧ m' = PH.mt) (fun i => T.length - i) 0 (by kernel_rfl) (fun _ => by kernel_rfl) ⟨by kernel_rfl, by kernel_rfl, by kernel_rfl⟩ ⟨by omega, rfl⟩ ?_
    rintro J i hJ u' m' hle ⟨hi, rfl⟩
    by_cases hlt : i < T.length
    · refine G.lssT (i : Int) (T.length : Int) (by kernel_rfl) (by omega) ?_
      have hg := getD_dig hdd hlt
      refine G.idxS T i _ (by kernel_rfl) (get_of_getD hlt) ?_
      refine G.cmpG .lss .u8 ((T.getD i 0).toNat : Int) 48 false (by kernel_rfl) rfl (by simp only [cmpZ, decide_eq_false_iff_not]; omega) ?_
      refine G.idxS T i _ (by kernel_rfl) (get_of_getD hlt) ?_
      refine G.cmpG .gtr .u8 ((T.getD i 0).toNat : Int) 57 false (by kernel_rfl) rfl (by simp only [cmpZ, decide_eq_false_iff_not]; omega) ?_
      refine G.add (i : Int) 1 ((i + 1 : Nat) : Int) (by kernel_rfl) (by omega) (by omega) (by omega) ?_
      exact G.back (by kernel_rfl) (hJ (i + 1) _ _ _ ⟨by kernel_rfl, by kernel_rfl, by kernel_rfl⟩ hle ⟨by omega, rfl⟩ (by omega))
    · refine G.lssF (i : Int) (T.length : Int) (by kernel_rfl) (by omega) ?_
      exact G.ret (.bool true) (by kernel_rfl) ⟨rfl, rfl⟩
theorem refSplitN {u : PH} {T : List UInt8} (h : ∀ b ∈ T, b ≠ 47) (hl : T.length ≤ 1000000) : Fn0 Tryz.prog 56 [.string (mkS T)] u fun v _ => v = .tuple #[.string (mkS T), .string (mkS [49]), .bool false] := by
  have hsize : (mkS T).size = T.length := Go.Lib.size_mk _
  refine Fn0.of Tryz.func56 (by kernel_rfl) (by kernel_rfl) ?_
  refine G.loop (ι := Nat) (fun i => [(0, .v (.string (mkS T))), (5, .v (.int .i64 (i : Int)))]) (fun _ => []) (fun i _ m' => i ≤ T.length ∧ m' = PH.mt) (fun i => T.length - i) 0 (by kernel_rfl) (fun _ => by kernel_rfl) ⟨by kernel_rfl, by kernel_rfl, by kernel_rfl⟩ ⟨by omega, rfl⟩ ?_
  rintro J i hJ u' m' hle ⟨hi, rfl⟩
  by_cases hlt : i < T.length
  · refine G.lssT (i : Int) (T.length : Int) (by kernel_rfl) (by omega) ?_
    refine G.idxS T i _ (by kernel_rfl) (get_of_getD hlt) ?_
    have hne : T.getD i 0 ≠ 47 := by rw [List.getD_eq_getElem?_getD, List.getElem?_eq_getElem hlt]; exact h _ (List.getElem_mem hlt)
    refine G.cmpG .eql .u8 ((T.getD i 0).toNat : Int) 47 false (by kernel_rfl) rfl (by simp only [cmpZ, decide_eq_false_iff_not]; intro h; exact hne (UInt8.toNat_inj.1 (by simpa using (by omega : (T.getD i 0).toNat = 47)))) ?_
    refine G.add (i : Int) 1 ((i + 1 : Nat) : Int) (by kernel_rfl) (by omega) (by omega) (by omega) ?_
    exact G.back (by kernel_rfl) (hJ (i + 1) _ _ _ ⟨by kernel_rfl, by kernel_rfl, by kernel_rfl⟩ hle ⟨by omega, rfl⟩ (by omega))
  · refine G.lssF (i : Int) (T.length : Int) (by kernel_rfl) (by omega) ?_
    exact G.ret (.tuple #[.string (mkS T), .string (mkS [49]), .bool false]) (by kernel_rfl) ⟨rfl, rfl⟩
theorem refSplitS {u : PH} {A B : List UInt8} (h : ∀ b ∈ A, b ≠ 47) (hl : (A ++ 47 :: B).length ≤ 1000000) : Fn0 Tryz.prog 56 [.string (mkS (A ++ 47 :: B))] u fun v _ => v = .tuple #[.string (mkS A), .string (mkS B), .bool true] := by
  have hT : ∀ i, i < A.length → (A ++ 47 :: B).getD i 0 ≠ 47 := by
    intro i hi
    rw [List.getD_eq_getElem?_getD, List.getElem?_append_left hi, List.getElem?_eq_getElem hi]; exact h _ (List.getElem_mem hi)
  have hA : (A ++ 47 :: B)[A.length]? = some 47 := by rw [List.getElem?_append_right (Nat.le_refl _)]; simp
  have hlen : (A ++ 47 :: B).length = A.length + 1 + B.length := by simp; omega
  have htk : (A ++ 47 :: B).take A.length = A := by simp
  have hdr : (A ++ 47 :: B).drop (A.length + 1) = B := by rw [← List.drop_drop]; simp
  generalize A ++ 47 :: B = T at *
  have hsize : (mkS T).size = T.length := Go.Lib.size_mk _
  refine Fn0.of Tryz.func56 (by kernel_rfl) (by kernel_rfl) ?_
  refine G.loop (ι := Nat) (fun i => [(0, .v (.string (mkS T))), (5, .v (.int .i64 (i : Int)))]) (fun _ => []) (fun i _ m' => i ≤ A.length ∧ m' = PH.mt) (fun i => T.length - i) 0 (by kernel_rfl) (fun _ => by kernel_rfl) ⟨by kernel_rfl, by kernel_rfl, by kernel_rfl⟩ ⟨by omega, rfl⟩ ?_
  rintro J i hJ u' m' hle ⟨hi, rfl⟩
  refine G.lssT (i : Int) (T.length : Int) (by kernel_rfl) (by omega) ?_
  by_cases hlt : i < A.length
  · refine G.idxS T i _ (by kernel_rfl) (get_of_getD (by omega)) ?_
    have hne := hT i hlt
    refine G.cmpG .eql .u8 ((T.getD i 0).toNat : Int) 47 false (by kernel_rfl) rfl (by simp only [cmpZ, decide_eq_false_iff_not]; intro h; exact hne (UInt8.toNat_inj.1 (by simpa using (by omega : (T.getD i 0).toNat = 47)))) ?_
    refine G.add (i : Int) 1 ((i + 1 : Nat) : Int) (by kernel_rfl) (by omega) (by omega) (by omega) ?_
    exact G.back (by kernel_rfl) (hJ (i + 1) _ _ _ ⟨by kernel_rfl, by kernel_rfl, by kernel_rfl⟩ hle ⟨by omega, rfl⟩ (by omega))
  · have : i = A.length := by omega
    subst this
    refine G.idxS T A.length 47 (by kernel_rfl) hA ?_
    refine G.cmpG .eql .u8 47 47 true (by kernel_rfl) rfl rfl ?_
    refine G.sliceSTo T A.length (by kernel_rfl) (by kernel_rfl) (by omega) ?_
    rw [htk]
    refine G.add (A.length : Int) 1 ((A.length + 1 : Nat) : Int) (by kernel_rfl) (by omega) (by omega) (by omega) ?_
    refine G.sliceSFrom T (A.length + 1) (by kernel_rfl) (by kernel_rfl) (by omega) ?_
    rw [hdr]
    exact G.ret (.tuple #[.string (mkS A), .string (mkS B), .bool true]) (by kernel_rfl) ⟨rfl, rfl⟩
def ratT (q : Rat) : List UInt8 := if q.den = 1 then Lib.itoa q.num else Lib.itoa q.num ++ 47 :: Lib.itoa (q.den : Int)
def Tx (q : Rat) : Prop := Lib.nDigits q.num.natAbs ≤ 400 ∧ Lib.nDigits q.den ≤ 400
theorem Tx.den {q : Rat} (h : Tx q) : Lib.nDigits ((q.den : Int)).natAbs ≤ 400 := by simpa using h.2
theorem Tx.sz {q : Rat} (h : Tx q) : Sz q 400 := ⟨nl_of_dig h.1, nl_of_dig h.2⟩
theorem Sz.mono {q : Rat} {j k : Nat} (h : Sz q j) (hjk : j ≤ k) : Sz q k := ⟨Nat.le_trans h.1 hjk, Nat.le_trans h.2 hjk⟩
theorem itoa_no47 (z : Int) : ∀ b ∈ Lib.itoa z, b ≠ 47 := by
  have hd := dec_dig z.natAbs
  intro b hb e
  subst e
  rw [itoa_signed] at hb
  unfold signed at hb
  split at hb
  · simp at hb
    have := hd _ hb; simp at this
  · have := hd _ hb; simp at this
theorem refSplitT {u : PH} {q : Rat} (h : Tx q) : Fn0 Tryz.prog 56 [.string (mkS (ratT q))] u fun v _ => v = .tuple #[.string (mkS (Lib.itoa q.num)), .string (mkS (Lib.itoa (q.den : Int))), .bool (decide (q.den ≠ 1))] := by
  have l1 := itoa_len h.1
  have l2 := itoa_len h.den
  unfold ratT
  by_cases hd : q.den = 1
  · rw [if_pos hd, hd, show ((1 : Nat) : Int) = 1 from rfl, itoa_one]
    exact refSplitN (itoa_no47 _) (by omega)
  · rw [if_neg hd, decide_eq_true hd]
    exact refSplitS (itoa_no47 _) (by simp; omega)
theorem refReadT {u : PH} {q : Rat} (h : Tx q) : Fn0 Tryz.prog 27 [.string (mkS (ratT q))] u fun v u' => QP u' v q := by
  refine Fn0.of Tryz.func27 (by kernel_rfl) (by kernel_rfl) ?_
  refine G.call0 _ _ (by kernel_rfl) Tryz.call56 (refSplitT h) ?_
  rintro v1 u1 l1 rfl
  refine G.call0 _ _ (by kernel_rfl) Tryz.call57 (bigReadT h.1) ?_
  intro v2 u2 l2 k2
  obtain ⟨b2, a2, n2, c2, rfl, _, _⟩ := k2.opn
  refine G.call0 _ _ (by kernel_rfl) Tryz.call57 (bigReadT h.den) ?_
  intro v3 u3 l3 k3
  obtain ⟨b3, a3, n3, c3, rfl, _, _⟩ := k3.opn
  exact G.ret (.agg #[.bool b2, .slice a2 n2 c2, .bool b3, .slice a3 n3 c3]) (by kernel_rfl) ⟨rfl, QP.mk (k2.mono l3) k3 rfl rfl⟩
theorem ratT_len {q : Rat} (h : Tx q) : (ratT q).length ≤ 802 := by
  have l1 := itoa_len h.1
  have l2 := Lib.decDigits_length q.den
  have l3 := h.2
  unfold ratT
  split
  · omega
  · rw [itoa_nat]; simp; omega
theorem num_ne {q : Rat} (h : q.den ≠ 1) : q.num ≠ 0 := fun h0 => h (by have := Rat.num_eq_zero.1 h0; subst this; rfl)
theorem refParts0 {u : PH} {q : Rat} (h : Tx q) : Fn0 Tryz.prog 98 [.string (mkS (ratT q))] u fun v _ => v = .tuple #[.string (mkS (Lib.itoa q.num)), .string (mkS (Lib.itoa (q.den : Int))), .bool true] := by
  have hsize : (mkS (ratT q)).size = (ratT q).length := Go.Lib.size_mk _
  have hlen := ratT_len h
  refine Fn0.of Tryz.func98 (by kernel_rfl) (by kernel_rfl) ?_
  refine G.gtrF ((ratT q).length : Int) 802 (by kernel_rfl) (by omega) ?_
  refine G.call0 _ _ (by kernel_rfl) Tryz.call56 (refSplitT h) ?_
  rintro v1 u1 l1 rfl
  refine G.call0 _ _ (by kernel_rfl) Tryz.call142 (bigValid0 h.1) ?_
  rintro v2 u2 l2 rfl
  refine G.call0 _ _ (by kernel_rfl) Tryz.call142 (bigValid0 h.den) ?_
  rintro v3 u3 l3 rfl
  by_cases hd : q.den = 1
  · rw [show decide (q.den ≠ 1) = false by simp [hd]]
    exact G.ret (.tuple #[.string (mkS (Lib.itoa q.num)), .string (mkS (Lib.itoa (q.den : Int))), .bool true]) (by kernel_rfl) ⟨rfl, rfl⟩
  · rw [show decide (q.den ≠ 1) = true by simp [hd]]
    have hn := num_ne hd
    have hdn := q.den_nz
    refine G.eqSF (Lib.itoa q.num) [48] (by kernel_rfl) (fun e => hn (itoa_inj (e.trans itoa_zero.symm))) ?_
    refine G.eqSF (Lib.itoa (q.den : Int)) [49] (by kernel_rfl) (fun e => by have := itoa_inj (e.trans itoa_one.symm); omega) ?_
    refine G.eqSF (Lib.itoa (q.den : Int)) [48] (by kernel_rfl) (fun e => by have := itoa_inj (e.trans itoa_zero.symm); omega) ?_
    obtain ⟨b0, hb0, hb1, hb2⟩ := itoa_first (z := (q.den : Int)) (by omega) (by omega)
    refine G.idxS (Lib.itoa (q.den : Int)) 0 b0 (by kernel_rfl) hb0 ?_
    refine G.cmpG .eql .u8 (b0.toNat : Int) 45 false (by kernel_rfl) rfl (by simp only [cmpZ, decide_eq_false_iff_not]; omega) ?_
    refine G.call0 _ _ (by kernel_rfl) Tryz.call57 (bigReadT h.1) ?_
    intro v4 u4 l4 k4
    obtain ⟨b4, a4, n4, c4, rfl, _, _⟩ := k4.opn
    refine G.call0 _ _ (by kernel_rfl) Tryz.call57 (bigReadT h.den) ?_
    intro v5 u5 l5 k5
    obtain ⟨b5, a5, n5, c5, rfl, _, _⟩ := k5.opn
    refine G.call0 _ _ (by kernel_rfl) Tryz.call100 (bigGcd0 (k4.mono l5) k5 (Nat.le_trans (nl_of_dig h.1) (by omega)) (Nat.le_trans (nl_of_dig h.den) (by omega))) ?_
    intro v6 u6 l6 k6
    rw [show Nat.gcd q.num.natAbs ((q.den : Int)).natAbs = 1 from q.reduced] at k6
    obtain ⟨b6, a6, n6, c6, rfl, _, _⟩ := k6.opn
    refine G.call0 _ _ (by kernel_rfl) Tryz.call115 (bigText0 k6 (Nat.le_trans nl_one (by omega))) ?_
    rintro v7 u7 l7 rfl
    refine G.neSF (Lib.itoa ((1 : Nat) : Int)) [49] (by kernel_rfl) itoa_one ?_
    exact G.ret (.tuple #[.string (mkS (Lib.itoa q.num)), .string (mkS (Lib.itoa (q.den : Int))), .bool true]) (by kernel_rfl) ⟨rfl, rfl⟩
theorem refValid0 {u : PH} {q : Rat} (h : Tx q) : Fn0 Tryz.prog 49 [.string (mkS (ratT q))] u fun v _ => v = .bool true := by
  refine Fn0.of Tryz.func49 (by kernel_rfl) (by kernel_rfl) ?_
  refine G.call0 _ _ (by kernel_rfl) Tryz.call98 (refParts0 h) ?_
  rintro v1 u1 l1 rfl
  exact G.ret (.bool true) (by kernel_rfl) ⟨rfl, rfl⟩
theorem refGive0 {u : PH} {x : Value} {q : Rat} (hx : QP u x q) (h : Tx q) : Fn0 Tryz.prog 31 [x] u fun v _ => v = .tuple #[.string (mkS (ratT q)), .int .i64 0] := by
  obtain ⟨b, a, n, c, a', n', c', rfl, _, hn, hd⟩ := hx.opn
  refine Fn0.of Tryz.func31 (by kernel_rfl) (by kernel_rfl) ?_
  refine G.call0 _ _ (by kernel_rfl) Tryz.call60 (bigGive0 hn (Nat.le_trans (nl_of_dig h.1) (by omega)) h.1) ?_
  rintro v1 u1 l1 rfl
  refine G.call0 _ _ (by kernel_rfl) Tryz.call60 (bigGive0 (hd.mono l1) (Nat.le_trans (nl_of_dig h.den) (by omega)) h.den) ?_
  rintro v2 u2 l2 rfl
  refine G.neqF 0 0 (by kernel_rfl) (by omega) ?_
  refine G.neqF 0 0 (by kernel_rfl) (by omega) ?_
  by_cases h1 : q.den = 1
  · refine G.eqST (Lib.itoa (q.den : Int)) [49] (by kernel_rfl) (by rw [h1]; exact itoa_one) ?_
    exact G.ret (.tuple #[.string (mkS (Lib.itoa q.num)), .int .i64 0]) (by kernel_rfl) ⟨rfl, by rw [ratT, if_pos h1]⟩
  · refine G.eqSF (Lib.itoa (q.den : Int)) [49] (by kernel_rfl) (fun e => by have := itoa_inj (e.trans itoa_one.symm); omega) ?_
    have e1 := itoa_len h.1
    have e2 := itoa_len h.den
    refine G.addS (Lib.itoa q.num) [47] (by kernel_rfl) (by simp; omega) ?_
    refine G.addS (Lib.itoa q.num ++ [47]) (Lib.itoa (q.den : Int)) (by kernel_rfl) (by simp; omega) ?_
    exact G.ret (.tuple #[.string (mkS (Lib.itoa q.num ++ [47] ++ Lib.itoa (q.den : Int))), .int .i64 0]) (by kernel_rfl) ⟨rfl, by rw [ratT, if_neg h1]; simp⟩
end Go.Proofs.YtikfmknnbjocmaaGreatDoor
end
section
namespace Go.Proofs
open Go.Shelf
def Tryz.lays169_ren : Go.Shelf.Ren := ⟨fun | 169 => 182 | n => n, fun | 70 => 220 | 9 => 9 | 0 => 0 | 72 => 222 | 37 => 125 | 127 => 258 | 3 => 3 | 5 => 5 | n => n, fun | n => n⟩
theorem Tryz.lays169 : Go.Proofs.Lays.n169 Tryz.prog Tryz.lays169_ren := {
  mixed := by kernel_rfl
  f169 := Tryz.func182.trans (congrArg some (by kernel_rfl))
  t0 := Tryz.underlying0
  a0 := Tryz.isAgg0
  z0 := Tryz.sizeOf0
  v0 := Tryz.zeroValue0
  t3 := Tryz.underlying3
  a3 := Tryz.isAgg3
  z3 := Tryz.sizeOf3
  v3 := Tryz.zeroValue3
  t9 := Tryz.underlying9
  a9 := Tryz.isAgg9
  z9 := Tryz.sizeOf9
  v9 := Tryz.zeroValue9
  t37 := Tryz.underlying125
  a37 := Tryz.isAgg125
  z37 := Tryz.sizeOf125
  v37 := Tryz.zeroValue125
  t70 := Tryz.underlying220
  a70 := Tryz.isAgg220
  z70 := Tryz.sizeOf220
  v70 := Tryz.zeroValue220
  t72 := Tryz.underlying222
  a72 := Tryz.isAgg222
  z72 := Tryz.sizeOf222
  v72 := Tryz.zeroValue222
  t127 := Tryz.underlying258
  a127 := Tryz.isAgg258
  z127 := Tryz.sizeOf258
  v127 := Tryz.zeroValue258 }
theorem Tryz.Builder_Extra_169 : Builder.Extra Tryz.prog Tryz.lays169_ren := {
  sizeBuilder := by kernel_rfl
  liesBuilder := by kernel_rfl
  t5 := Tryz.underlying5
  a5 := Tryz.isAgg5
  z5 := Tryz.sizeOf5
  v5 := Tryz.zeroValue5
  infoByte := by kernel_rfl
  cellsByte := by kernel_rfl
  sizeByte := by kernel_rfl
  neB5 := by decide }
open Go.RowKit in
theorem Tryz.Builder_String (B b : Nat) (l : List UInt8) (w : World) (h : Lib.IsBuilder 222 5 B b (Lib.byteCells l) w) (h0 : l ≠ []) :
    Calls Tryz.prog 182 #[.pointer (some ⟨b, 0, none⟩)] w fun e w' => e = .returned (.string ⟨l.toArray⟩) ∧ Below B w w' := Any.Builder_String Tryz.lays169 Tryz.Builder_Extra_169 B b l w h h0
def Tryz.lays210_ren : Go.Shelf.Ren := ⟨fun | 210 => 174 | 206 => 206 | n => n, fun | 9 => 9 | 4 => 4 | 3 => 3 | n => n, fun | n => n⟩
def Tryz.lays103_ren : Go.Shelf.Ren := ⟨fun | 103 => 146 | 210 => 174 | 206 => 206 | n => n, fun | 9 => 9 | 4 => 4 | 24 => 190 | 3 => 3 | n => n, fun | n => n⟩
theorem Tryz.lays103 : Go.Proofs.Lays.n103 Tryz.prog Tryz.lays103_ren := {
  mixed := by kernel_rfl
  f103 := Tryz.func146.trans (congrArg some (by kernel_rfl))
  f206 := Tryz.func206.trans (congrArg some (by kernel_rfl))
  f210 := Tryz.func174.trans (congrArg some (by kernel_rfl))
  t3 := Tryz.underlying3
  a3 := Tryz.isAgg3
  z3 := Tryz.sizeOf3
  v3 := Tryz.zeroValue3
  t4 := Tryz.underlying4
  a4 := Tryz.isAgg4
  z4 := Tryz.sizeOf4
  v4 := Tryz.zeroValue4
  t9 := Tryz.underlying9
  a9 := Tryz.isAgg9
  z9 := Tryz.sizeOf9
  v9 := Tryz.zeroValue9
  t24 := Tryz.underlying190
  a24 := Tryz.isAgg190
  z24 := Tryz.sizeOf190
  v24 := Tryz.zeroValue190 }
open Go.RowKit in
theorem Tryz.strings_CutPrefix (s p : ByteArray) (w : World) :
    Calls Tryz.prog 146 #[.string s, .string p] w fun e w' => e = .returned (.tuple #[.string ⟨(Lib.trimPrefix s.data.toList p.data.toList).toArray⟩, .bool (Lib.hasPrefix s.data.toList p.data.toList)]) ∧ w' = w := Any.strings_CutPrefix Tryz.lays103 s p w
def Tryz.lays283_ren : Go.Shelf.Ren := ⟨fun | 283 => 215 | n => n, fun | 3 => 3 | 9 => 9 | 4 => 4 | n => n, fun | n => n⟩
theorem Tryz.lays283 : Go.Proofs.Lays.n283 Tryz.prog Tryz.lays283_ren := {
  mixed := by kernel_rfl
  f283 := Tryz.func215.trans (congrArg some (by kernel_rfl))
  t3 := Tryz.underlying3
  a3 := Tryz.isAgg3
  z3 := Tryz.sizeOf3
  v3 := Tryz.zeroValue3
  t4 := Tryz.underlying4
  a4 := Tryz.isAgg4
  z4 := Tryz.sizeOf4
  v4 := Tryz.zeroValue4
  t9 := Tryz.underlying9
  a9 := Tryz.isAgg9
  z9 := Tryz.sizeOf9
  v9 := Tryz.zeroValue9 }
open Go.Lib in
theorem Tryz.internal_strconv_small (i : Nat) (h : i < 100) (w : World) :
    Calls Tryz.prog 215 #[.int .i64 i] w fun e w' => e = .returned (.string ⟨(Lib.decDigits i).toArray⟩) ∧ w' = w := Any.internal_strconv_small Tryz.lays283 i h w
def Tryz.laysM284_ren : Go.Shelf.Ren := ⟨fun | 284 => 216 | 129 => 192 | 317 => 237 | 318 => 238 | n => n, fun | 53 => 192 | 3 => 3 | 212 => 273 | 0 => 0 | 4 => 4 | 46 => 209 | 5 => 5 | 9 => 9 | n => n, fun | 17 => 3 | n => n⟩
theorem Tryz.laysM284 : Go.Proofs.LaysM.n284 Tryz.prog Tryz.laysM284_ren := {
  mixed := by kernel_rfl
  f129 := Tryz.func192.trans (congrArg some (by kernel_rfl))
  f284 := Tryz.func216.trans (congrArg some (by kernel_rfl))
  f317 := Tryz.func237.trans (congrArg some (by kernel_rfl))
  f318 := Tryz.func238.trans (congrArg some (by kernel_rfl))
  t0 := Tryz.underlying0
  a0 := Tryz.isAgg0
  z0 := Tryz.sizeOf0
  v0 := Tryz.zeroValue0
  t3 := Tryz.underlying3
  a3 := Tryz.isAgg3
  z3 := Tryz.sizeOf3
  v3 := Tryz.zeroValue3
  t4 := Tryz.underlying4
  a4 := Tryz.isAgg4
  z4 := Tryz.sizeOf4
  v4 := Tryz.zeroValue4
  t5 := Tryz.underlying5
  a5 := Tryz.isAgg5
  z5 := Tryz.sizeOf5
  v5 := Tryz.zeroValue5
  t9 := Tryz.underlying9
  a9 := Tryz.isAgg9
  z9 := Tryz.sizeOf9
  v9 := Tryz.zeroValue9
  t46 := Tryz.underlying209
  a46 := Tryz.isAgg209
  z46 := Tryz.sizeOf209
  v46 := Tryz.zeroValue209
  t53 := Tryz.underlying192
  a53 := Tryz.isAgg192
  z53 := Tryz.sizeOf192
  v53 := Tryz.zeroValue192
  t212 := Tryz.underlying273
  a212 := Tryz.isAgg273
  z212 := Tryz.sizeOf273
  v212 := Tryz.zeroValue273
  g17 := by kernel_rfl
  i0 := by kernel_rfl
  i3 := by kernel_rfl
  i4 := by kernel_rfl
  i5 := by kernel_rfl
  i9 := by kernel_rfl
  i46 := by kernel_rfl
  i53 := by kernel_rfl
  i212 := by kernel_rfl
  m17 := by kernel_rfl }
open Go.Lib in
theorem Tryz.internal_strconv_numDigits (u : Nat) (h1 : 1 ≤ u) (h2 : u < 18446744073709551616) (w : World) (htab : Lib.TabIs Tryz.prog w "internal/strconv.uint64pow10" .u64 Lib.pow10Tab) :
    Calls Tryz.prog 216 #[.int .u64 u] w fun e w' => e = .returned (.int .i64 (Lib.nDigits u)) ∧ w' = w := Any.internal_strconv_numDigits Tryz.laysM284 u h1 h2 w htab
def Tryz.lays285_ren : Go.Shelf.Ren := ⟨fun | 285 => 217 | n => n, fun | 37 => 125 | 53 => 192 | 3 => 3 | 4 => 4 | 51 => 233 | 9 => 9 | 5 => 5 | 0 => 0 | n => n, fun | n => n⟩
theorem Tryz.lays285 : Go.Proofs.Lays.n285 Tryz.prog Tryz.lays285_ren := {
  mixed := by kernel_rfl
  f285 := Tryz.func217.trans (congrArg some (by kernel_rfl))
  t0 := Tryz.underlying0
  a0 := Tryz.isAgg0
  z0 := Tryz.sizeOf0
  v0 := Tryz.zeroValue0
  t3 := Tryz.underlying3
  a3 := Tryz.isAgg3
  z3 := Tryz.sizeOf3
  v3 := Tryz.zeroValue3
  t4 := Tryz.underlying4
  a4 := Tryz.isAgg4
  z4 := Tryz.sizeOf4
  v4 := Tryz.zeroValue4
  t5 := Tryz.underlying5
  a5 := Tryz.isAgg5
  z5 := Tryz.sizeOf5
  v5 := Tryz.zeroValue5
  t9 := Tryz.underlying9
  a9 := Tryz.isAgg9
  z9 := Tryz.sizeOf9
  v9 := Tryz.zeroValue9
  t37 := Tryz.underlying125
  a37 := Tryz.isAgg125
  z37 := Tryz.sizeOf125
  v37 := Tryz.zeroValue125
  t51 := Tryz.underlying233
  a51 := Tryz.isAgg233
  z51 := Tryz.sizeOf233
  v51 := Tryz.zeroValue233
  t53 := Tryz.underlying192
  a53 := Tryz.isAgg192
  z53 := Tryz.sizeOf192
  v53 := Tryz.zeroValue192 }
open Go.RowKit Go.Sort Go.Lib in
theorem Tryz.internal_strconv_formatBase10 (blk off cap : Nat) (u : Nat) (d : Array UInt8) (w : World) (hH : Holds (fun (b : UInt8) => Value.int .u8 (b.toNat : Int)) w blk off d) (hu : u < 10 ^ d.size) (hu64 : u < 18446744073709551616) (hsz : d.size < 4611686018427387904) :
    Calls Tryz.prog 217 #[.slice (some ⟨blk, off, none⟩) d.size cap, .int .u64 u] w fun e w' =>
      e = .returned (.tuple #[]) ∧ ∃ (n v' : Nat) (dk : Array UInt8), w' = (putRow (fun (b : UInt8) => Value.int .u8 (b.toNat : Int)) w blk off dk).drewN n ∧ FmtInv d.size u 0 v' dk := Any.internal_strconv_formatBase10 Tryz.lays285 blk off cap u d w hH hu hu64 hsz
def Tryz.laysPu14_ren : Go.Shelf.Ren := ⟨fun | 14 => 147 | 16 => 175 | 17 => 176 | 19 => 207 | 20 => 208 | 21 => 209 | 22 => 210 | 23 => 211 | 24 => 212 | 25 => 234 | 27 => 236 | 26 => 235 | 28 => 247 | 29 => 251 | 30 => 215 | 31 => 216 | 32 => 217 | 33 => 218 | 35 => 192 | 34 => 237 | 36 => 238 | 37 => 239 | 38 => 240 | 39 => 248 | 40 => 249 | n => n, fun | 9 => 9 | 3 => 3 | 22 => 192 | 24 => 194 | 25 => 195 | 4 => 4 | 34 => 242 | 5 => 5 | 36 => 209 | 37 => 125 | 0 => 0 | 39 => 244 | 21 => 21 | 44 => 270 | 47 => 258 | 50 => 286 | 48 => 284 | 2 => 2 | 52 => 251 | 55 => 253 | 59 => 273 | 60 => 233 | 20 => 20 | 61 => 274 | 65 => 289 | 66 => 290 | 67 => 167 | n => n, fun | 0 => 1 | 1 => 2 | 2 => 3 | 3 => 4 | 4 => 5 | n => n⟩
theorem Tryz.laysPu14 : Go.Proofs.LaysPu.n14 Tryz.prog Tryz.laysPu14_ren := {
  mixed := by kernel_rfl
  f14 := Tryz.func147.trans (congrArg some (by kernel_rfl))
  f16 := Tryz.func175.trans (congrArg some (by kernel_rfl))
  f17 := Tryz.func176.trans (congrArg some (by kernel_rfl))
  f19 := Tryz.func207.trans (congrArg some (by kernel_rfl))
  f20 := Tryz.func208.trans (congrArg some (by kernel_rfl))
  f21 := Tryz.func209.trans (congrArg some (by kernel_rfl))
  f22 := Tryz.func210.trans (congrArg some (by kernel_rfl))
  f23 := Tryz.func211.trans (congrArg some (by kernel_rfl))
  f24 := Tryz.func212.trans (congrArg some (by kernel_rfl))
  f25 := Tryz.func234.trans (congrArg some (by kernel_rfl))
  f26 := Tryz.func235.trans (congrArg some (by kernel_rfl))
  f27 := Tryz.func236.trans (congrArg some (by kernel_rfl))
  f28 := Tryz.func247.trans (congrArg some (by kernel_rfl))
  f29 := Tryz.func251.trans (congrArg some (by kernel_rfl))
  f30 := Tryz.func215.trans (congrArg some (by kernel_rfl))
  f31 := Tryz.func216.trans (congrArg some (by kernel_rfl))
  f32 := Tryz.func217.trans (congrArg some (by kernel_rfl))
  f33 := Tryz.func218.trans (congrArg some (by kernel_rfl))
  f34 := Tryz.func237.trans (congrArg some (by kernel_rfl))
  f35 := Tryz.func192.trans (congrArg some (by kernel_rfl))
  f36 := Tryz.func238.trans (congrArg some (by kernel_rfl))
  f37 := Tryz.func239.trans (congrArg some (by kernel_rfl))
  f38 := Tryz.func240.trans (congrArg some (by kernel_rfl))
  f39 := Tryz.func248.trans (congrArg some (by kernel_rfl))
  f40 := Tryz.func249.trans (congrArg some (by kernel_rfl))
  t0 := Tryz.underlying0
  a0 := Tryz.isAgg0
  z0 := Tryz.sizeOf0
  v0 := Tryz.zeroValue0
  i0 := by kernel_rfl
  t2 := Tryz.underlying2
  a2 := Tryz.isAgg2
  z2 := Tryz.sizeOf2
  v2 := Tryz.zeroValue2
  i2 := by kernel_rfl
  t3 := Tryz.underlying3
  a3 := Tryz.isAgg3
  z3 := Tryz.sizeOf3
  v3 := Tryz.zeroValue3
  i3 := by kernel_rfl
  t4 := Tryz.underlying4
  a4 := Tryz.isAgg4
  z4 := Tryz.sizeOf4
  v4 := Tryz.zeroValue4
  i4 := by kernel_rfl
  t5 := Tryz.underlying5
  a5 := Tryz.isAgg5
  z5 := Tryz.sizeOf5
  v5 := Tryz.zeroValue5
  i5 := by kernel_rfl
  t9 := Tryz.underlying9
  a9 := Tryz.isAgg9
  z9 := Tryz.sizeOf9
  v9 := Tryz.zeroValue9
  i9 := by kernel_rfl
  t20 := Tryz.underlying20
  a20 := Tryz.isAgg20
  z20 := Tryz.sizeOf20
  v20 := Tryz.zeroValue20
  i20 := by kernel_rfl
  t21 := Tryz.underlying21
  a21 := Tryz.isAgg21
  z21 := Tryz.sizeOf21
  v21 := Tryz.zeroValue21
  i21 := by kernel_rfl
  t22 := Tryz.underlying192
  a22 := Tryz.isAgg192
  z22 := Tryz.sizeOf192
  v22 := Tryz.zeroValue192
  i22 := by kernel_rfl
  t24 := Tryz.underlying194
  a24 := Tryz.isAgg194
  z24 := Tryz.sizeOf194
  v24 := Tryz.zeroValue194
  i24 := by kernel_rfl
  t25 := Tryz.underlying195
  a25 := Tryz.isAgg195
  z25 := Tryz.sizeOf195
  v25 := Tryz.zeroValue195
  i25 := by kernel_rfl
  t34 := Tryz.underlying242
  a34 := Tryz.isAgg242
  z34 := Tryz.sizeOf242
  v34 := Tryz.zeroValue242
  i34 := by kernel_rfl
  c34 := by kernel_rfl
  t36 := Tryz.underlying209
  a36 := Tryz.isAgg209
  z36 := Tryz.sizeOf209
  v36 := Tryz.zeroValue209
  i36 := by kernel_rfl
  t37 := Tryz.underlying125
  a37 := Tryz.isAgg125
  z37 := Tryz.sizeOf125
  v37 := Tryz.zeroValue125
  i37 := by kernel_rfl
  t39 := Tryz.underlying244
  a39 := Tryz.isAgg244
  z39 := Tryz.sizeOf244
  v39 := Tryz.zeroValue244
  i39 := by kernel_rfl
  t44 := Tryz.underlying270
  a44 := Tryz.isAgg270
  z44 := Tryz.sizeOf270
  v44 := Tryz.zeroValue270
  i44 := by kernel_rfl
  t47 := Tryz.underlying258
  a47 := Tryz.isAgg258
  z47 := Tryz.sizeOf258
  v47 := Tryz.zeroValue258
  i47 := by kernel_rfl
  t48 := Tryz.underlying284
  a48 := Tryz.isAgg284
  z48 := Tryz.sizeOf284
  v48 := Tryz.zeroValue284
  i48 := by kernel_rfl
  t50 := Tryz.underlying286
  a50 := Tryz.isAgg286
  z50 := Tryz.sizeOf286
  v50 := Tryz.zeroValue286
  i50 := by kernel_rfl
  t52 := Tryz.underlying251
  a52 := Tryz.isAgg251
  z52 := Tryz.sizeOf251
  v52 := Tryz.zeroValue251
  i52 := by kernel_rfl
  t55 := Tryz.underlying253
  a55 := Tryz.isAgg253
  z55 := Tryz.sizeOf253
  v55 := Tryz.zeroValue253
  i55 := by kernel_rfl
  t59 := Tryz.underlying273
  a59 := Tryz.isAgg273
  z59 := Tryz.sizeOf273
  v59 := Tryz.zeroValue273
  i59 := by kernel_rfl
  t60 := Tryz.underlying233
  a60 := Tryz.isAgg233
  z60 := Tryz.sizeOf233
  v60 := Tryz.zeroValue233
  i60 := by kernel_rfl
  t61 := Tryz.underlying274
  a61 := Tryz.isAgg274
  z61 := Tryz.sizeOf274
  t65 := Tryz.underlying289
  a65 := Tryz.isAgg289
  z65 := Tryz.sizeOf289
  v65 := Tryz.zeroValue289
  i65 := by kernel_rfl
  t66 := Tryz.underlying290
  a66 := Tryz.isAgg290
  z66 := Tryz.sizeOf290
  v66 := Tryz.zeroValue290
  i66 := by kernel_rfl
  t67 := Tryz.underlying167
  a67 := Tryz.isAgg167
  z67 := Tryz.sizeOf167
  v67 := Tryz.zeroValue167
  i67 := by kernel_rfl
  g0 := by kernel_rfl
  m0 := by kernel_rfl
  g1 := by kernel_rfl
  m1 := by kernel_rfl
  g2 := by kernel_rfl
  m2 := by kernel_rfl
  g3 := by kernel_rfl
  m3 := by kernel_rfl
  g4 := by kernel_rfl
  m4 := by kernel_rfl }
open Go.RowKit in
theorem Tryz.strconv_ParseUint_10_at64_ok (s : ByteArray) (hmax : s.size ≤ 9223372036854775806) (u : Nat) (h : Lib.parseUintB 64 s.data.toList = .ok u) (w : World) :
    Calls Tryz.prog 147 #[.string s, .int .i64 10, .int .i64 64] w fun e w' => e = .returned (.tuple #[.int .u64 u, .nilIface]) ∧ (w' = w ∨ w' = Lib.bytesWorld w 5 s) := Any.strconv_ParseUint_10_at64_ok Tryz.laysPu14 s hmax u h w
def Tryz.lays219_ren : Go.Shelf.Ren := ⟨fun | 219 => 172 | 217 => 202 | 225 => 203 | 224 => 204 | 267 => 205 | 266 => 232 | 314 => 233 | n => n, fun | 9 => 9 | 3 => 3 | 4 => 4 | 5 => 5 | 46 => 209 | 146 => 266 | 51 => 233 | n => n, fun | 1 => 0 | n => n⟩
theorem Tryz.lays219 : Go.Proofs.Lays.n219 Tryz.prog Tryz.lays219_ren := {
  mixed := by kernel_rfl
  f217 := Tryz.func202.trans (congrArg some (by kernel_rfl))
  f219 := Tryz.func172.trans (congrArg some (by kernel_rfl))
  f224 := Tryz.func204.trans (congrArg some (by kernel_rfl))
  f225 := Tryz.func203.trans (congrArg some (by kernel_rfl))
  f266 := Tryz.func232.trans (congrArg some (by kernel_rfl))
  f267 := Tryz.func205.trans (congrArg some (by kernel_rfl))
  f314 := Tryz.func233.trans (congrArg some (by kernel_rfl))
  t3 := Tryz.underlying3
  a3 := Tryz.isAgg3
  z3 := Tryz.sizeOf3
  v3 := Tryz.zeroValue3
  t4 := Tryz.underlying4
  a4 := Tryz.isAgg4
  z4 := Tryz.sizeOf4
  v4 := Tryz.zeroValue4
  t5 := Tryz.underlying5
  a5 := Tryz.isAgg5
  z5 := Tryz.sizeOf5
  v5 := Tryz.zeroValue5
  t9 := Tryz.underlying9
  a9 := Tryz.isAgg9
  z9 := Tryz.sizeOf9
  v9 := Tryz.zeroValue9
  t46 := Tryz.underlying209
  a46 := Tryz.isAgg209
  z46 := Tryz.sizeOf209
  v46 := Tryz.zeroValue209
  t51 := Tryz.underlying233
  a51 := Tryz.isAgg233
  z51 := Tryz.sizeOf233
  v51 := Tryz.zeroValue233
  t146 := Tryz.underlying266
  a146 := Tryz.isAgg266
  z146 := Tryz.sizeOf266
  v146 := Tryz.zeroValue266
  g1 := by kernel_rfl }
open Go.RowKit Go.Lib in
theorem Tryz.stringslite_Index_one (s : ByteArray) (c : UInt8) (w : World) :
    Calls Tryz.prog 172 #[.string s, .string ⟨#[c]⟩] w fun e w' => e = .returned (.int .i64 (Lib.indexByte s.data.toList c)) ∧ w' = w := Any.stringslite_Index_one Tryz.lays219 s c w
def Tryz.lays101_ren : Go.Shelf.Ren := ⟨fun | 101 => 145 | 208 => 173 | 206 => 206 | n => n, fun | 9 => 9 | 4 => 4 | 3 => 3 | n => n, fun | n => n⟩
theorem Tryz.lays101 : Go.Proofs.Lays.n101 Tryz.prog Tryz.lays101_ren := {
  mixed := by kernel_rfl
  f101 := Tryz.func145.trans (congrArg some (by kernel_rfl))
  f206 := Tryz.func206.trans (congrArg some (by kernel_rfl))
  f208 := Tryz.func173.trans (congrArg some (by kernel_rfl))
  t3 := Tryz.underlying3
  a3 := Tryz.isAgg3
  z3 := Tryz.sizeOf3
  v3 := Tryz.zeroValue3
  t4 := Tryz.underlying4
  a4 := Tryz.isAgg4
  z4 := Tryz.sizeOf4
  v4 := Tryz.zeroValue4
  t9 := Tryz.underlying9
  a9 := Tryz.isAgg9
  z9 := Tryz.sizeOf9
  v9 := Tryz.zeroValue9 }
open Go.RowKit Go.Lib in
theorem Tryz.strings_TrimPrefix (s p : ByteArray) (w : World) :
    Calls Tryz.prog 145 #[.string s, .string p] w fun e w' => e = .returned (.string ⟨(Lib.trimPrefix s.data.toList p.data.toList).toArray⟩) ∧ w' = w := Any.strings_TrimPrefix Tryz.lays101 s p w
def Tryz.lays105_ren : Go.Shelf.Ren := ⟨fun | 105 => 181 | 212 => 220 | 99 => 221 | 165 => 222 | 166 => 180 | 170 => 223 | 169 => 182 | 263 => 242 | 264 => 243 | 206 => 206 | 240 => 219 | 241 => 244 | 276 => 241 | 277 => 250 | n => n, fun | 9 => 9 | 3 => 3 | 4 => 4 | 20 => 20 | 0 => 0 | 46 => 209 | 109 => 255 | 5 => 5 | 72 => 222 | 76 => 223 | 51 => 233 | 146 => 266 | 53 => 192 | 148 => 278 | 70 => 220 | 37 => 125 | 75 => 194 | 127 => 258 | 164 => 275 | 80 => 167 | n => n, fun | n => n⟩
theorem Tryz.lays105 : Go.Proofs.Lays.n105 Tryz.prog Tryz.lays105_ren := {
  mixed := by kernel_rfl
  f99 := Tryz.func221.trans (congrArg some (by kernel_rfl))
  f105 := Tryz.func181.trans (congrArg some (by kernel_rfl))
  f165 := Tryz.func222.trans (congrArg some (by kernel_rfl))
  f166 := Tryz.func180.trans (congrArg some (by kernel_rfl))
  f169 := Tryz.func182.trans (congrArg some (by kernel_rfl))
  f170 := Tryz.func223.trans (congrArg some (by kernel_rfl))
  f206 := Tryz.func206.trans (congrArg some (by kernel_rfl))
  f212 := Tryz.func220.trans (congrArg some (by kernel_rfl))
  f240 := Tryz.func219.trans (congrArg some (by kernel_rfl))
  f241 := Tryz.func244.trans (congrArg some (by kernel_rfl))
  f263 := Tryz.func242.trans (congrArg some (by kernel_rfl))
  f264 := Tryz.func243.trans (congrArg some (by kernel_rfl))
  f276 := Tryz.func241.trans (congrArg some (by kernel_rfl))
  f277 := Tryz.func250.trans (congrArg some (by kernel_rfl))
  t0 := Tryz.underlying0
  a0 := Tryz.isAgg0
  z0 := Tryz.sizeOf0
  v0 := Tryz.zeroValue0
  t3 := Tryz.underlying3
  a3 := Tryz.isAgg3
  z3 := Tryz.sizeOf3
  v3 := Tryz.zeroValue3
  t4 := Tryz.underlying4
  a4 := Tryz.isAgg4
  z4 := Tryz.sizeOf4
  v4 := Tryz.zeroValue4
  t5 := Tryz.underlying5
  a5 := Tryz.isAgg5
  z5 := Tryz.sizeOf5
  v5 := Tryz.zeroValue5
  t9 := Tryz.underlying9
  a9 := Tryz.isAgg9
  z9 := Tryz.sizeOf9
  v9 := Tryz.zeroValue9
  t20 := Tryz.underlying20
  a20 := Tryz.isAgg20
  z20 := Tryz.sizeOf20
  v20 := Tryz.zeroValue20
  t37 := Tryz.underlying125
  a37 := Tryz.isAgg125
  z37 := Tryz.sizeOf125
  v37 := Tryz.zeroValue125
  t46 := Tryz.underlying209
  a46 := Tryz.isAgg209
  z46 := Tryz.sizeOf209
  v46 := Tryz.zeroValue209
  t51 := Tryz.underlying233
  a51 := Tryz.isAgg233
  z51 := Tryz.sizeOf233
  v51 := Tryz.zeroValue233
  t53 := Tryz.underlying192
  a53 := Tryz.isAgg192
  z53 := Tryz.sizeOf192
  v53 := Tryz.zeroValue192
  t70 := Tryz.underlying220
  a70 := Tryz.isAgg220
  z70 := Tryz.sizeOf220
  v70 := Tryz.zeroValue220
  t72 := Tryz.underlying222
  a72 := Tryz.isAgg222
  z72 := Tryz.sizeOf222
  v72 := Tryz.zeroValue222
  t75 := Tryz.underlying194
  a75 := Tryz.isAgg194
  z75 := Tryz.sizeOf194
  v75 := Tryz.zeroValue194
  t76 := Tryz.underlying223
  a76 := Tryz.isAgg223
  z76 := Tryz.sizeOf223
  v76 := Tryz.zeroValue223
  t109 := Tryz.underlying255
  a109 := Tryz.isAgg255
  z109 := Tryz.sizeOf255
  v109 := Tryz.zeroValue255
  t127 := Tryz.underlying258
  a127 := Tryz.isAgg258
  z127 := Tryz.sizeOf258
  v127 := Tryz.zeroValue258
  t146 := Tryz.underlying266
  a146 := Tryz.isAgg266
  z146 := Tryz.sizeOf266
  v146 := Tryz.zeroValue266
  t148 := Tryz.underlying278
  a148 := Tryz.isAgg278
  z148 := Tryz.sizeOf278
  v148 := Tryz.zeroValue278
  t164 := Tryz.underlying275
  a164 := Tryz.isAgg275
  z164 := Tryz.sizeOf275
  v164 := Tryz.zeroValue275 }
theorem Tryz.Builder_Extra_105 : Builder.Extra Tryz.prog Tryz.lays105_ren := {
  sizeBuilder := by kernel_rfl
  liesBuilder := by kernel_rfl
  t5 := Tryz.underlying5
  a5 := Tryz.isAgg5
  z5 := Tryz.sizeOf5
  v5 := Tryz.zeroValue5
  infoByte := by kernel_rfl
  cellsByte := by kernel_rfl
  sizeByte := by kernel_rfl
  neB5 := by decide }
open Go.RowKit Go.Lib in
theorem Tryz.strings_Repeat (s : ByteArray) (c : Nat) (w : World) (hc : c ≤ 9223372036854775807) (hlen : s.size * c ≤ 140737488355328) :
    Calls Tryz.prog 181 #[.string s, .int .i64 c] w fun e w' => e = .returned (.string ⟨(Lib.repeatL s.data.toList c).toArray⟩) ∧ Below w.heap.size w w' := Any.strings_Repeat Tryz.lays105 Tryz.Builder_Extra_105 s c w hc hlen
end Go.Proofs
end
section
set_option linter.unusedVariables false
namespace Go.Proofs.YtikfmknnbjocmaaGreatDoor
open Go.Shelf Go.RowKit
theorem bld_info : (Tryz.prog.info? 222).map (·.size) = some 2 := by kernel_rfl
theorem bld_lies : liesAt Tryz.prog Tryz.prog.depth 222 (2 / Tryz.prog.cellsOf 222) 0 222 1 = true := by kernel_rfl
theorem byte_info : (Tryz.prog.info? 5).map (fun i => (i.zero, i.size, i.bytes)) = some (some (.int .u8 0), 1, 1) := by kernel_rfl
set_option maxHeartbeats 1000000 in
set_option maxRecDepth 100000 in
theorem copyCheck_used (b : Nat) (w : World) (h0 : w.cell? ⟨b, 0, none⟩ = some (.pointer (some ⟨b, 0, none⟩))) :
    Calls Tryz.prog 219 #[.pointer (some ⟨b, 0, none⟩)] w fun e w' => e = .returned (.tuple #[]) ∧ w' = w := by
  obtain ⟨j, hj, _⟩ := Option.map_eq_some_iff.1 bld_info
  go_enter Tryz.func219, Tryz.ntmps219
  go_wp2
  rw [Lib.run_neq_ptr_same w _ Tryz.underlying220 hj]
  go_wp2
  go_end0
  exact ⟨rfl, rfl⟩
set_option maxHeartbeats 1000000 in
set_option maxRecDepth 100000 in
theorem copyCheck_fresh (b : Nat) (w : World) (h0 : w.cell? ⟨b, 0, none⟩ = some (.pointer none)) (hsh : w.shape? b = some (222, 2)) (hfz : w.frozen? ⟨b, 0, none⟩ = false) :
    Calls Tryz.prog 219 #[.pointer (some ⟨b, 0, none⟩)] w fun e w' => e = .returned (.tuple #[]) ∧ w' = w.setCell ⟨b, 0, none⟩ (.pointer (some ⟨b, 0, none⟩)) := by
  obtain ⟨j, hj, hjs⟩ := Option.map_eq_some_iff.1 bld_info
  go_enter Tryz.func219, Tryz.ntmps219
  go_wp2
  rw [Lib.run_to_unsafe w ⟨b, 0, none⟩ Tryz.underlying220 Tryz.underlying275 hj (by rw [hjs]; decide) hsh (Nat.zero_lt_succ 1)]
  simp only [Result.andThen]
  rw [Oper.upon_value]
  go_wp2
  rw [run_callFunc_extern Tryz.func241 (by kernel_rfl) (by kernel_rfl) (by kernel_rfl) (e := Extern.AbiNoEscape.same) (by kernel_rfl)]
  rw [Lib.run_noEscape]
  simp only [Result.andThen]
  rw [Oper.upon_value]
  go_wp2
  rw [Lib.run_from_unsafe w ⟨b, 0, none⟩ Tryz.underlying275 Tryz.underlying220 hj hsh bld_lies]
  simp only [Result.andThen]
  rw [Oper.upon_value]
  go_wp2
  go_end0
  exact ⟨rfl, rfl⟩
theorem copyCheck_any (B b : Nat) (bs : List Value) (w : World) (h : Lib.IsBuilder 222 5 B b bs w) :
    Calls Tryz.prog 219 #[.pointer (some ⟨b, 0, none⟩)] w fun e w' => e = .returned (.tuple #[]) ∧ (Lib.BuilderAt 222 5 B b (.pointer (some ⟨b, 0, none⟩)) bs w' ∧ Below B w w') := by
  rcases h with h | h
  · refine (copyCheck_fresh b w h.cell0 h.shape h.frozen0).mono ?_
    rintro e w' ⟨rfl, rfl⟩
    exact ⟨rfl, h.used _, (Below.refl B w).setCell (p := ⟨b, 0, none⟩) h.1 _⟩
  · refine (copyCheck_used b w h.cell0).mono ?_
    rintro e w' ⟨rfl, rfl⟩
    exact ⟨rfl, h, Below.refl B _⟩
set_option maxHeartbeats 2000000 in
set_option maxRecDepth 100000 in
theorem writeString_any (B b : Nat) (bs : List Value) (s : ByteArray) (w : World) (h : Lib.IsBuilder 222 5 B b bs w) (hlen : bs.length + s.size ≤ 140737488355328) (hBw : B ≤ w.heap.size) :
    Calls Tryz.prog 180 #[.pointer (some ⟨b, 0, none⟩), .string s] w fun e w' => e = .returned (.tuple #[.int .i64 s.size, .nilIface]) ∧ (Lib.BuilderAt 222 5 B b (.pointer (some ⟨b, 0, none⟩)) (bs ++ Lib.strCells s) w' ∧ Below B w w') := by
  obtain ⟨i0, hi, hz0, hz1, hz2⟩ := info_parts byte_info
  go_enter Tryz.func180, Tryz.ntmps180
  go_wp2_with fail
  refine (copyCheck_any B b bs _ h).mono ?_
  rintro e w1 ⟨rfl, h1, hb1⟩
  obtain ⟨hB, v, hbk, hown, hne⟩ := h1
  have c0 : w1.cell? ⟨b, 0, none⟩ = some (.pointer (some ⟨b, 0, none⟩)) := by rw [Lib.cell_of_heap hbk]; rfl
  have c1 : w1.cell? ⟨b, 1, none⟩ = some v := by rw [Lib.cell_of_heap hbk]; rfl
  go_wp2_with (at_builtin; refine Lib.wpList_append_own_string _ rfl _ _ 125 9 rfl B 5 i0 Tryz.underlying125 Tryz.underlying9 hi hz0 hz1 hz2 _ _ _ rfl hown s rfl ?c3 ?c4 ?c5 ?_)
  case c3 => unfold maxLen; omega
  case c4 => omega
  case c5 => have := hb1.size; omega
  intro v' w2 hown' hgrow _
  have hlt : b < w1.heap.size := by
    rcases Nat.lt_or_ge b w1.heap.size with h' | h'
    · exact h'
    · simp [Array.getElem?_eq_none h'] at hbk
  have hb2 : w2.heap[b]? = some (.cells #[.pointer (some ⟨b, 0, none⟩), v] 222 (0, 0)) := by
    rw [hgrow.block b hlt (fun e => hne e.symm)]
    exact hbk
  have d0 : w2.cell? ⟨b, 0, none⟩ = some (.pointer (some ⟨b, 0, none⟩)) := by rw [Lib.cell_of_heap hb2]; rfl
  have d1 : w2.cell? ⟨b, 1, none⟩ = some v := by rw [Lib.cell_of_heap hb2]; rfl
  have f1 : w2.frozen? ⟨b, 1, none⟩ = false := Lib.frozen_of_heap hb2 1
  obtain ⟨ao, n', cap, rfl⟩ : ∃ ao n' cap, v' = .slice ao n' cap := by
    rcases hown'.2 with ⟨hv, _⟩ | ⟨g, cap, cur, hv, _⟩
    · exact ⟨_, _, _, hv⟩
    · exact ⟨_, _, _, hv⟩
  go_wp2
  go_ret2
  refine ⟨rfl, ?_, ?_⟩
  · exact Lib.BuilderAt.put (T := 222) (e := 5) hB hb2 (bs' := bs ++ Lib.strCells s) (by simpa [Lib.strCells_length] using hown') (by decide)
  · exact (hb1.grown hgrow (by have := hb1.size; omega) (fun k hk => (hown.lt k hk).1)).setCell (p := ⟨b, 1, none⟩) hB _
end Go.Proofs.YtikfmknnbjocmaaGreatDoor
end
section
set_option linter.unusedVariables false
namespace Go.Proofs.YtikfmknnbjocmaaGreatDoor
open Go.Shelf Go.RowKit Go.Sort Go.Lib
set_option maxRecDepth 100000 in
set_option maxHeartbeats 2000000 in
theorem formatUint_any (u : Nat) (hu64 : u < 18446744073709551616) (w : World) (htab : Lib.TabIs Tryz.prog w "internal/strconv.uint64pow10" .u64 Lib.pow10Tab) :
    Calls Tryz.prog 179 #[.int .u64 u, .int .i64 10] w fun e w' => e = .returned (.string ⟨(Lib.decDigits u).toArray⟩) ∧ Below w.heap.size w w' := by
  by_cases hs : u < 100
  · go_enter Tryz.func179, Tryz.ntmps179
    go_wp2_with fail
    refine (Tryz.internal_strconv_small u hs _).mono ?_
    rintro e w' ⟨rfl, rfl⟩
    go_wp2_with fail
    go_ret
    exact ⟨rfl, Below.refl _ _⟩
  · have hu1 : 1 ≤ u := by omega
    have hnd20 : Lib.nDigits u ≤ 20 := by have := Lib.numDigits_eq u hu1 hu64; split at this <;> omega
    have hal : Tryz.prog.arrayLen 251 = 24 := by kernel_rfl
    have hsl1 : ∀ W, (Instr.sliceAt 251 (.pointer (some ⟨w.heap.size, 0, none⟩)) none (some (.int .i64 (Lib.nDigits u : Int))) none).run Tryz.prog W = .ok (.slice (some ⟨w.heap.size, 0, none⟩) (Lib.nDigits u) 24) W := fun W => by
      rw [run_sliceAt_array_h W 251 ⟨w.heap.size, 0, none⟩ (by kernel_rfl) .i64 (Lib.nDigits u : Int) (by omega) (by rw [hal]; omega)]
      go_simp
    have hH0 := Lib.holds_zero0 w 251 (Lib.nDigits u) (by omega)
    have hfmt := Tryz.internal_strconv_formatBase10 w.heap.size 0 24 u (Array.replicate (Lib.nDigits u) 0) (w.alloc (.cells Lib.zeros24 251)) hH0 (by rw [Array.size_replicate]; exact Lib.lt_pow_nDigits u) hu64 (by rw [Array.size_replicate]; omega)
    rw [Array.size_replicate] at hfmt
    have HH0 := Lib.hid hH0
    clear hH0 hal
    go_enter Tryz.func179, Tryz.ntmps179
    go_wp2_with fail
    refine (Tryz.internal_strconv_numDigits u hu1 hu64 _ (Lib.tabIs_alloc htab _)).mono ?_
    rintro e w' ⟨rfl, rfl⟩
    go_wp2_with fail
    refine hfmt.mono ?_
    rintro e w' ⟨rfl, k, v', dk, rfl, hF⟩
    have hcv : (convert 125 9 (.slice (some ⟨w.heap.size, 0, none⟩) (Lib.nDigits u) 24)).run Tryz.prog ((putRow (fun (b : UInt8) => Value.int .u8 (b.toNat : Int)) (w.alloc (.cells Lib.zeros24 251)) w.heap.size 0 dk).drewN k) = .ok (.string ⟨(Lib.decDigits u).toArray⟩) ((putRow (fun (b : UInt8) => Value.int .u8 (b.toNat : Int)) (w.alloc (.cells Lib.zeros24 251)) w.heap.size 0 dk).drewN k) := by
      have h := run_convert_bytes_back (P := Tryz.prog) ((putRow (fun (b : UInt8) => Value.int .u8 (b.toNat : Int)) (w.alloc (.cells Lib.zeros24 251)) w.heap.size 0 dk).drewN k) 125 9 5 ⟨w.heap.size, 0, none⟩ 24 (Lib.decDigits u) Tryz.underlying125 Tryz.underlying5 Tryz.underlying9 (fun j hj => by
        rw [Lib.row_is_numeral hF j hj, Lib.add_plain, World.cell?_drewN]
        exact cell?_putRow (fun (b : UInt8) => Value.int .u8 (b.toNat : Int)) _ w.heap.size 0 _ dk HH0.out (by rw [hF.size, Array.size_replicate]) j (by rw [hF.size]; rw [Lib.decDigits_length] at hj; exact hj))
      rw [Lib.decDigits_length] at h
      exact h
    go_wp2_with fail
    go_ret
    refine ⟨rfl, ?_⟩
    obtain ⟨os, eo⟩ := Lib.fin_at w (.cells Lib.zeros24 251) dk k 0
    rw [eo]
    exact Lib.below_grow _ w (Nat.le_refl _) k os
end Go.Proofs.YtikfmknnbjocmaaGreatDoor
end
section
set_option linter.unusedVariables false
namespace Go.Proofs.YtikfmknnbjocmaaGreatDoor
open Go.Shelf Go.RowKit Go.Sort Go.Lib
theorem tabIs_ext {P : Program} {w w' : World} {name : String} {k : IntKind} {zs : List Int} (h : TabIs P w name k zs) (x : Ext w w') : TabIs P w' name k zs := by
  unfold TabIs World.var? at *
  cases hg : P.globalNamed name with
  | none => simp [hg] at h
  | some g =>
    simp only [hg, Option.bind_some] at h ⊢
    have hlt : g < w.heap.size := by
      rcases Nat.lt_or_ge g w.heap.size with h' | h'
      · exact h'
      · simp [Array.getElem?_eq_none h'] at h
    rw [Below.block x g hlt]; exact h
theorem ownsRow_ext {w w' : World} {B : Nat} {e : TypeId} {size : Nat} {v : Value} {n : Nat} {xs : List Value} (h : w.ownsRow B e size v n xs) (x : Ext w w') : w'.ownsRow B e size v n xs := by
  obtain ⟨hl, h0 | ⟨g, cap, cur, hv, hb, hh, r⟩⟩ := h
  · exact ⟨hl, .inl h0⟩
  · exact ⟨hl, .inr ⟨g, cap, cur, hv, hb, by rw [Below.block x g (lt_of_at hh)]; exact hh, r⟩⟩
theorem builderAt_ext {T e : TypeId} {B b : Nat} {p : Value} {bs : List Value} {w w' : World} (h : BuilderAt T e B b p bs w) (x : Ext w w') : BuilderAt T e B b p bs w' := by
  obtain ⟨hB, v, hb, ho, hne⟩ := h
  exact ⟨hB, v, by rw [Below.block x b (lt_of_at hb)]; exact hb, ownsRow_ext ho x, hne⟩
theorem isBuilder_ext {T e : TypeId} {B b : Nat} {bs : List Value} {w w' : World} (h : IsBuilder T e B b bs w) (x : Ext w w') : IsBuilder T e B b bs w' :=
  h.elim (fun h => .inl (builderAt_ext h x)) (fun h => .inr (builderAt_ext h x))
theorem ld_add (n j k : Nat) : ld n (j + k) = ld n j ++ ld (n / 10 ^ j) k := by
  induction k with
  | zero => simp [ld]
  | succ k ih =>
    rw [← Nat.add_assoc, ld_succ, ld_succ, ih, List.append_assoc]
    congr 3
    unfold dg
    rw [Nat.div_div_eq_div_mul, ← Nat.pow_add]
theorem ld_low {n k : Nat} (d : Nat) (h : ∀ j, j < k → n / 10 ^ j % 10 = d / 10 ^ j % 10) : ld n k = ld d k := by
  unfold ld
  refine List.map_congr_left fun j hj => ?_
  unfold dg; rw [h j (List.mem_range.1 hj)]
theorem repeatL_zero (k : Nat) : repeatL [48] k = List.replicate k 48 := by
  induction k with
  | zero => rfl
  | succ k ih => rw [repeatL, ih]; rfl
theorem nDigits_le9 {d : Nat} (hd : d < 1000000000) : nDigits d ≤ 9 := by
  rcases Nat.eq_zero_or_pos d with h | h
  · subst h; rw [nDigits_small (by omega)]; omega
  · have h1 := pow_le_nDigits (n := d) (by omega)
    have h2 : 10 ^ (nDigits d - 1) < 10 ^ 9 := Nat.lt_of_le_of_lt h1 (by omega)
    have h3 := (Nat.pow_lt_pow_iff_right (by omega : 1 < 10)).1 h2
    omega
theorem pad9 {d : Nat} (hd : d < 1000000000) : (ld d 9).reverse = repeatL [48] (9 - nDigits d) ++ decDigits d := by
  have h9 := nDigits_le9 hd
  have e : 9 = nDigits d + (9 - nDigits d) := by omega
  rw [show ld d 9 = ld d (nDigits d + (9 - nDigits d)) by rw [← e], ld_add, List.reverse_append, ld_rev]
  congr 1
  have h0 : d / 10 ^ nDigits d = 0 := Nat.div_eq_of_lt (lt_pow_nDigits d)
  rw [h0, repeatL_zero]
  have : ∀ k, ld 0 k = List.replicate k 48 := by
    intro k
    induction k with
    | zero => rfl
    | succ k ih => rw [ld_succ, ih, List.replicate_succ']; congr 1; simp [dg]
  rw [this, List.reverse_replicate]
theorem dec_limb {x d : Nat} (hx : x ≠ 0) (hd : d < 1000000000) : decDigits (x * 1000000000 + d) = decDigits x ++ (repeatL [48] (9 - nDigits d) ++ decDigits d) := by
  have hdiv : (x * 1000000000 + d) / 10 ^ 9 = x := by omega
  have hN : nDigits (x * 1000000000 + d) = 9 + nDigits x := by
    rw [nDigits_shift (j := 9) (by omega), hdiv]
  rw [← ld_rev, hN, ld_add, hdiv, List.reverse_append, ld_rev, ← pad9 hd]
  congr 2
  refine ld_low d fun j hj => ?_
  have e : (1000000000 : Nat) = 10 ^ j * 10 ^ (9 - j) := by rw [← Nat.pow_add, show j + (9 - j) = 9 by omega]
  rw [e, Nat.mul_comm x, Nat.mul_assoc, Nat.mul_add_div (Nat.pow_pos (by omega)), show 9 - j = (8 - j) + 1 by omega, Nat.pow_succ]
  rw [Nat.mul_right_comm, Nat.mul_comm _ 10, Nat.mul_add_mod]
def mid (n k : Nat) : List UInt8 := if k = (limbs n).length then [] else decDigits (n / 1000000000 ^ k)
theorem mid_len (n : Nat) : mid n (limbs n).length = [] := by simp [mid]
theorem mid_ne {n k : Nat} (h : k ≠ (limbs n).length) : mid n k = decDigits (n / 1000000000 ^ k) := by simp [mid, h]
def textTo (neg : Bool) (n k : Nat) : List UInt8 := (if neg then [45] else []) ++ mid n k
theorem textTo_len (neg : Bool) (n : Nat) : textTo neg n (limbs n).length = if neg then [45] else [] := by rw [textTo, mid_len, List.append_nil]
theorem textTo_end (z : Int) (h : z ≠ 0) : textTo (decide (z < 0)) z.natAbs 0 = itoa z := by
  have hl : (limbs z.natAbs).length ≠ 0 := fun h0 => h (by have := limbs_eq_nil.1 (List.eq_nil_of_length_eq_zero h0); omega)
  rw [textTo, mid_ne (fun h0 => hl h0.symm), itoa_signed, signed, Nat.pow_zero, Nat.div_one]
  split <;> rfl
theorem limb_split (n k : Nat) : n / 1000000000 ^ k = n / 1000000000 ^ (k + 1) * 1000000000 + (limbs n).getD k 0 := by
  rw [limbs_getD, Nat.pow_succ, ← Nat.div_div_eq_div_mul]; omega
theorem textTo_top {neg : Bool} {n k : Nat} (hk : k + 1 = (limbs n).length) : textTo neg n k = textTo neg n (k + 1) ++ decDigits ((limbs n).getD k 0) := by
  have h0 : n / 1000000000 ^ (k + 1) = 0 := Nat.div_eq_of_lt (by rw [hk]; exact lt_pow_nl n)
  rw [textTo, textTo, mid_ne (by omega), hk, mid_len, List.append_nil, limb_split, h0]; simp
theorem textTo_low {neg : Bool} {n k : Nat} (hk : k + 1 < (limbs n).length) : textTo neg n k = textTo neg n (k + 1) ++ (repeatL [48] (9 - nDigits ((limbs n).getD k 0)) ++ decDigits ((limbs n).getD k 0)) := by
  have hn : n ≠ 0 := by rintro rfl; rw [limbs_zero] at hk; simp at hk
  have hx : n / 1000000000 ^ (k + 1) ≠ 0 := by
    have h1 := pow_le_of_nl hn
    have h2 : 1000000000 ^ (k + 1) ≤ 1000000000 ^ (nl n - 1) := Nat.pow_le_pow_right (by omega) (by have : nl n = (limbs n).length := rfl; omega)
    have h3 := Nat.div_pos (Nat.le_trans h2 h1) (Nat.pow_pos (by omega))
    omega
  rw [textTo, textTo, mid_ne (by omega), mid_ne (by omega), List.append_assoc]
  congr 1
  rw [limb_split n k, dec_limb hx ((low_limbs n).getD k)]
theorem textTo_size (neg : Bool) (n k : Nat) : (textTo neg n k).length ≤ 1 + 9 * (limbs n).length + 1 := by
  have h1 : nDigits (n / 1000000000 ^ k) ≤ 9 * (limbs n).length + 1 := by
    rcases Nat.eq_zero_or_pos (n / 1000000000 ^ k) with h | h
    · rw [h, nDigits_small (by omega)]; omega
    · have h2 := pow_le_nDigits (n := n / 1000000000 ^ k) (by omega)
      have h3 : 10 ^ (nDigits (n / 1000000000 ^ k) - 1) < 10 ^ (9 * (limbs n).length) := Nat.lt_of_le_of_lt h2 (Nat.lt_of_le_of_lt (Nat.div_le_self _ _) (lt_pow_limbs n))
      have h4 := (Nat.pow_lt_pow_iff_right (by omega : 1 < 10)).1 h3
      omega
  unfold textTo mid
  split <;> split <;> simp [decDigits_length] <;> omega
end Go.Proofs.YtikfmknnbjocmaaGreatDoor
end
section
set_option linter.unusedVariables false
namespace Go.Proofs.YtikfmknnbjocmaaGreatDoor
open Go.Shelf Go.RowKit Go.Sort Go.Lib
set_option maxRecDepth 100000 in
theorem formatUintS_any (u : Nat) (hu64 : u < 18446744073709551616) (w : World) (htab : Lib.TabIs Tryz.prog w "internal/strconv.uint64pow10" .u64 Lib.pow10Tab) :
    Calls Tryz.prog 159 #[.int .u64 u, .int .i64 10] w fun e w' => e = .returned (.string ⟨(Lib.decDigits u).toArray⟩) ∧ Ext w w' := by
  go_enter Tryz.func159, Tryz.ntmps159
  go_wp2_with fail
  refine (formatUint_any u hu64 _ htab).mono ?_
  rintro e w' ⟨rfl, hx⟩
  go_wp2_with fail
  go_ret
  exact ⟨rfl, hx⟩
def StrRel (W0 : World) (B : Nat) (neg : Bool) (n : Nat) (i : Value) (wr : World) : Prop :=
  ∃ k : Nat, k ≤ (limbs n).length ∧ i = .int .i64 ((k : Int) - 1) ∧ IsBuilder 222 5 B B (byteCells (textTo neg n k)) wr ∧ Below B W0 wr
theorem byteCells_append (l l' : List UInt8) : byteCells l ++ byteCells l' = byteCells (l ++ l') := by simp [byteCells]
set_option maxRecDepth 100000 in
set_option maxHeartbeats 400000 in
theorem numString_any (v : Value) (z : Int) (w : World) (hv : NumV w v z) (hs : nl z.natAbs ≤ 100000000000) (htab : Lib.TabIs Tryz.prog w "internal/strconv.uint64pow10" .u64 Lib.pow10Tab) :
    Calls Tryz.prog 160 #[v] w fun e w' => e = .returned (.string ⟨(Lib.itoa z).toArray⟩) ∧ Ext w w' := by
  obtain ⟨a, n, c, rfl, hn⟩ := hv
  obtain ⟨a', c', e, hcap, hrow⟩ := hn
  simp only [Value.slice.injEq] at e
  obtain ⟨rfl, rfl, rfl⟩ := e
  have hlen : (limbs z.natAbs).length ≤ 100000000000 := hs
  by_cases hz : z = 0
  · subst hz
    rw [show (limbs (0 : Int).natAbs).length = 0 by rw [show (0 : Int).natAbs = 0 from rfl, limbs_zero]; rfl]
    clear hrow hcap hlen
    go_enter Tryz.func160, Tryz.ntmps160
    go_wp2_with fail
    go_ret
    exact ⟨by rw [itoa_zero]; rfl, Ext.alloc (Ext.refl w) _⟩
  · have hp : 0 < (limbs z.natAbs).length := len_pos.2 (by omega)
    obtain ⟨L, hL⟩ : ∃ L, L = (limbs z.natAbs).length := ⟨_, rfl⟩
    rw [← hL] at hp hlen ⊢
    have HL := Lib.hid hL
    have HROW := Lib.hid hrow
    have HTAB := Lib.hid htab
    clear hL hrow htab hcap
    obtain ⟨neg, hneg⟩ : ∃ neg, neg = decide (z < 0) := ⟨_, rfl⟩
    rw [← hneg]
    have HNEG := Lib.hid hneg
    clear hneg
    obtain ⟨w1, hw1⟩ : ∃ w1, w1 = w.alloc (Obj.cells #[Value.bool neg, Value.slice a L c] 86) := ⟨_, rfl⟩
    have hs1 : w1.heap.size = w.heap.size + 1 := by rw [hw1]; exact size_alloc' _ _
    have HX1 : RowKit.Hid (Ext w w1) := Lib.hid (by rw [hw1]; exact Ext.alloc (Ext.refl w) _)
    have HB0 := Lib.hid (Lib.fresh_isBuilder 222 5 w1)
    have HW1 := Lib.hid hw1
    have HS1 := Lib.hid hs1
    clear hw1 hs1
    cases neg
    · go_enter Tryz.func160, Tryz.ntmps160
      go_wp2_with fail
      rw [← HW1.out, ← HS1.out, show ((L : Int) == 0) = false by rw [beq_eq_false_iff_ne]; omega]
      go_loopw [4] (StrRel (w1.alloc (Obj.cells #[Value.pointer none, Value.slice none 0 0] 222)) w1.heap.size false z.natAbs) (fun i _ => (RowKit.intOf i + 1).toNat)
      case atStart => exact ⟨(limbs z.natAbs).length, Nat.le_refl _, by rw [← HL.out], by rw [textTo_len]; exact HB0.out, Below.refl _ _⟩
      case round =>
        obtain ⟨k, hk, rfl, hbd, hbel⟩ := hrel
        have hsz0 := hbel.size
        rw [size_alloc'] at hsz0
        have HXW : RowKit.Hid (Ext w wr) := Lib.hid (Ext.trans HX1.out (Below.trans (Ext.alloc (Ext.refl w1) (Obj.cells #[Value.pointer none, Value.slice none 0 0] 222)) hbel))
        rcases k with _ | k
        · have hne : textTo false z.natAbs 0 ≠ [] := by rw [HNEG.out, textTo_end z hz, itoa_signed, signed]; split; simp; exact dec_ne_nil _
          have HBD := Lib.hid hbd
          clear hbd
          go_wp2_with fail
          refine (Tryz.Builder_String w1.heap.size w1.heap.size (textTo false z.natAbs 0) wr HBD.out hne).mono ?_
          rintro e w2 ⟨rfl, hb2⟩
          go_wp2_with fail
          go_ret
          refine ⟨?_, Below.trans HXW.out ?_⟩
          · rw [HNEG.out, textTo_end z hz]; rfl
          · exact Below.mono hb2 (by have := HS1.out; omega)
        · have hsz1 : w.heap.size < w1.heap.size := by rw [HS1.out]; omega
          have hc1 : wr.cell? ⟨w.heap.size, 1, none⟩ = some (.slice a L c) := by
            rw [Below.cell hbel hsz1, Below.cell (Ext.alloc (Ext.refl w1) _) hsz1, HW1.out, World.cell?_alloc_new]; rfl
          obtain ⟨ba, offa, rfl, hca⟩ := HROW.out.at (j := k) (by omega)
          have hcb := HXW.out.cell hca
          clear hca
          have hlow : (limbs z.natAbs).getD k 0 < 1000000000 := (low_limbs _).getD k
          obtain ⟨x, hx⟩ : ∃ x, x = (limbs z.natAbs).getD k 0 := ⟨_, rfl⟩
          rw [← hx] at hcb hlow
          have XX := Lib.hid hx
          have HBD := Lib.hid hbd
          have HBEL := Lib.hid hbel
          have HK := Lib.hid hk
          clear hx hbd hbel hk hsz1
          rw [show ((k + 1 : Nat) : Int) - 1 = k by omega]
          have hkL : k < L := by have := HK.out; have := HL.out; omega
          have hsw : (textTo false z.natAbs (k + 1)).length ≤ 1 + 9 * L + 1 := by have := textTo_size false z.natAbs (k + 1); rw [← HL.out] at this; exact this
          have hd9 := nDigits_le9 hlow
          have hdl := decDigits_length x
          have HSW := Lib.hid hsw
          have HDL := Lib.hid hdl
          have HD9 := Lib.hid hd9
          clear hsw hdl hd9
          by_cases htop : k + 1 = L
          · have hkt : ¬ ((k : Int) < (L : Int) - 1) := by omega
            have HTOP := Lib.hid htop
            clear htop
            go_wp2_with fail
            refine (formatUintS_any x (by omega) _ (tabIs_ext HTAB.out HXW.out)).mono ?_
            rintro e w2 ⟨rfl, hx2⟩
            have HX2 := Lib.hid hx2
            clear hx2
            have hc2 := HX2.out.cell hc1
            clear hc1 hcb
            go_wp2_with fail
            refine (writeString_any w1.heap.size w1.heap.size (byteCells (textTo false z.natAbs (k + 1))) ⟨(decDigits x).toArray⟩ w2 (isBuilder_ext HBD.out HX2.out) (by rw [byteCells_length, Lib.size_mk, HDL.out]; have := HSW.out; have := HD9.out; omega) (by have := HX2.out.size; omega)).mono ?_
            rintro e w3 ⟨rfl, hb3, hbel3⟩
            have htx := textTo_top (neg := false) (n := z.natAbs) (k := k) (by rw [← HL.out]; exact HTOP.out)
            rw [← XX.out] at htx
            rw [strCells_toArray, byteCells_append, ← htx] at hb3
            go_wp2_with fail
            refine ⟨⟨k, by rw [← HL.out]; omega, by go_num, .inr hb3, Below.trans HBEL.out (Below.trans (Below.mono HX2.out (by omega)) hbel3)⟩, by simp only [RowKit.intOf]; omega⟩
          · have hkt : (k : Int) < (L : Int) - 1 := by omega
            have HTOP := Lib.hid htop
            clear htop
            go_wp2_with fail
            refine (formatUintS_any x (by omega) _ (tabIs_ext HTAB.out HXW.out)).mono ?_
            rintro e w2 ⟨rfl, hx2⟩
            have HX2 := Lib.hid hx2
            clear hx2
            have hc2 := HX2.out.cell hc1
            clear hc1 hcb
            have hsl : (⟨(decDigits x).toArray⟩ : ByteArray).size = nDigits x := by rw [Lib.size_mk]; exact HDL.out
            go_wp2_with fail
            rw [show wrap64 (9 - (nDigits x : Int)) = ((9 - nDigits x : Nat) : Int) by have := HD9.out; unfold wrap64; omega]
            have hrep := Tryz.strings_Repeat ⟨#[48]⟩ (9 - nDigits x) w2 (by omega) (by have := HD9.out; simp [ByteArray.size]; omega)
            refine hrep.mono ?_
            rintro e w4 ⟨rfl, hx4⟩
            have HX4 : RowKit.Hid (Ext w2 w4) := Lib.hid hx4
            clear hx4 hrep
            go_wp2_with fail
            refine (writeString_any w1.heap.size w1.heap.size (byteCells (textTo false z.natAbs (k + 1))) ⟨(repeatL [48] (9 - nDigits x)).toArray⟩ w4 (isBuilder_ext (isBuilder_ext HBD.out HX2.out) HX4.out) (by rw [byteCells_length, Lib.size_mk, repeatL_zero, List.length_replicate]; have := HSW.out; omega) (by have := HX2.out.size; have := HX4.out.size; omega)).mono ?_
            rintro e w5 ⟨rfl, hb5, hbel5⟩
            rw [strCells_toArray, byteCells_append] at hb5
            go_wp2_with fail
            refine (writeString_any w1.heap.size w1.heap.size _ ⟨(decDigits x).toArray⟩ w5 (.inr hb5) (by rw [byteCells_length, Lib.size_mk, HDL.out, List.length_append, repeatL_zero, List.length_replicate]; have := HSW.out; have := HD9.out; omega) (by have := HX2.out.size; have := HX4.out.size; have := hbel5.size; omega)).mono ?_
            rintro e w3 ⟨rfl, hb3, hbel3⟩
            have htx := textTo_low (neg := false) (n := z.natAbs) (k := k) (by rw [← HL.out]; have := HTOP.out; omega)
            rw [← XX.out] at htx
            rw [strCells_toArray, byteCells_append, List.append_assoc, ← htx] at hb3
            have h6 := HX2.out.size
            go_wp2_with fail
            refine ⟨⟨k, by rw [← HL.out]; omega, by go_num, .inr hb3, Below.trans HBEL.out (Below.trans (Below.mono HX2.out (by omega)) (Below.trans (Below.mono HX4.out (by omega)) (Below.trans hbel5 hbel3)))⟩, by simp only [RowKit.intOf]; omega⟩
    · go_enter Tryz.func160, Tryz.ntmps160
      go_wp2_with fail
      rw [← HW1.out, ← HS1.out, show ((L : Int) == 0) = false by rw [beq_eq_false_iff_ne]; omega]
      refine (writeString_any w1.heap.size w1.heap.size [] ⟨#[45]⟩ _ HB0.out (by simp [ByteArray.size]) (by rw [size_alloc']; omega)).mono ?_
      rintro e w4 ⟨rfl, hb4, hbel4⟩
      have HB4 : RowKit.Hid (BuilderAt 222 5 w1.heap.size w1.heap.size (.pointer (some ⟨w1.heap.size, 0, none⟩)) (byteCells [45]) w4) := Lib.hid hb4
      have HBEL4 := Lib.hid hbel4
      have hs4 := hbel4.size
      rw [size_alloc'] at hs4
      have hc0 : w4.cell? ⟨w.heap.size, 1, none⟩ = some (.slice a L c) := by
        have hsz1 : w.heap.size < w1.heap.size := by rw [HS1.out]; omega
        rw [Below.cell hbel4 hsz1, Below.cell (Ext.alloc (Ext.refl w1) _) hsz1, HW1.out, World.cell?_alloc_new]; rfl
      clear hb4 hbel4
      go_wp2_with fail
      go_loopw [4] (StrRel (w1.alloc (Obj.cells #[Value.pointer none, Value.slice none 0 0] 222)) w1.heap.size true z.natAbs) (fun i _ => (RowKit.intOf i + 1).toNat)
      case atStart => exact ⟨(limbs z.natAbs).length, Nat.le_refl _, by rw [← HL.out], by rw [textTo_len]; exact .inr HB4.out, HBEL4.out⟩
      case round =>
        obtain ⟨k, hk, rfl, hbd, hbel⟩ := hrel
        have hsz0 := hbel.size
        rw [size_alloc'] at hsz0
        have HXW : RowKit.Hid (Ext w wr) := Lib.hid (Ext.trans HX1.out (Below.trans (Ext.alloc (Ext.refl w1) (Obj.cells #[Value.pointer none, Value.slice none 0 0] 222)) hbel))
        rcases k with _ | k
        · have hne : textTo true z.natAbs 0 ≠ [] := by rw [HNEG.out, textTo_end z hz, itoa_signed, signed]; split; simp; exact dec_ne_nil _
          have HBD := Lib.hid hbd
          clear hbd
          go_wp2_with fail
          refine (Tryz.Builder_String w1.heap.size w1.heap.size (textTo true z.natAbs 0) wr HBD.out hne).mono ?_
          rintro e w2 ⟨rfl, hb2⟩
          go_wp2_with fail
          go_ret
          refine ⟨?_, Below.trans HXW.out ?_⟩
          · rw [HNEG.out, textTo_end z hz]; rfl
          · exact Below.mono hb2 (by have := HS1.out; omega)
        · have hsz1 : w.heap.size < w1.heap.size := by rw [HS1.out]; omega
          have hc1 : wr.cell? ⟨w.heap.size, 1, none⟩ = some (.slice a L c) := by
            rw [Below.cell hbel hsz1, Below.cell (Ext.alloc (Ext.refl w1) _) hsz1, HW1.out, World.cell?_alloc_new]; rfl
          obtain ⟨ba, offa, rfl, hca⟩ := HROW.out.at (j := k) (by omega)
          have hcb := HXW.out.cell hca
          clear hca
          have hlow : (limbs z.natAbs).getD k 0 < 1000000000 := (low_limbs _).getD k
          obtain ⟨x, hx⟩ : ∃ x, x = (limbs z.natAbs).getD k 0 := ⟨_, rfl⟩
          rw [← hx] at hcb hlow
          have XX := Lib.hid hx
          have HBD := Lib.hid hbd
          have HBEL := Lib.hid hbel
          have HK := Lib.hid hk
          clear hx hbd hbel hk hsz1
          rw [show ((k + 1 : Nat) : Int) - 1 = k by omega]
          have hkL : k < L := by have := HK.out; have := HL.out; omega
          have hsw : (textTo true z.natAbs (k + 1)).length ≤ 1 + 9 * L + 1 := by have := textTo_size true z.natAbs (k + 1); rw [← HL.out] at this; exact this
          have hd9 := nDigits_le9 hlow
          have hdl := decDigits_length x
          have HSW := Lib.hid hsw
          have HDL := Lib.hid hdl
          have HD9 := Lib.hid hd9
          clear hsw hdl hd9
          by_cases htop : k + 1 = L
          · have hkt : ¬ ((k : Int) < (L : Int) - 1) := by omega
            have HTOP := Lib.hid htop
            clear htop
            go_wp2_with fail
            refine (formatUintS_any x (by omega) _ (tabIs_ext HTAB.out HXW.out)).mono ?_
            rintro e w2 ⟨rfl, hx2⟩
            have HX2 := Lib.hid hx2
            clear hx2
            have hc2 := HX2.out.cell hc1
            clear hc1 hcb
            go_wp2_with fail
            refine (writeString_any w1.heap.size w1.heap.size (byteCells (textTo true z.natAbs (k + 1))) ⟨(decDigits x).toArray⟩ w2 (isBuilder_ext HBD.out HX2.out) (by rw [byteCells_length, Lib.size_mk, HDL.out]; have := HSW.out; have := HD9.out; omega) (by have := HX2.out.size; omega)).mono ?_
            rintro e w3 ⟨rfl, hb3, hbel3⟩
            have htx := textTo_top (neg := true) (n := z.natAbs) (k := k) (by rw [← HL.out]; exact HTOP.out)
            rw [← XX.out] at htx
            rw [strCells_toArray, byteCells_append, ← htx] at hb3
            go_wp2_with fail
            refine ⟨⟨k, by rw [← HL.out]; omega, by go_num, .inr hb3, Below.trans HBEL.out (Below.trans (Below.mono HX2.out (by omega)) hbel3)⟩, by simp only [RowKit.intOf]; omega⟩
          · have hkt : (k : Int) < (L : Int) - 1 := by omega
            have HTOP := Lib.hid htop
            clear htop
            go_wp2_with fail
            refine (formatUintS_any x (by omega) _ (tabIs_ext HTAB.out HXW.out)).mono ?_
            rintro e w2 ⟨rfl, hx2⟩
            have HX2 := Lib.hid hx2
            clear hx2
            have hc2 := HX2.out.cell hc1
            clear hc1 hcb
            have hsl : (⟨(decDigits x).toArray⟩ : ByteArray).size = nDigits x := by rw [Lib.size_mk]; exact HDL.out
            go_wp2_with fail
            rw [show wrap64 (9 - (nDigits x : Int)) = ((9 - nDigits x : Nat) : Int) by have := HD9.out; unfold wrap64; omega]
            have hrep := Tryz.strings_Repeat ⟨#[48]⟩ (9 - nDigits x) w2 (by omega) (by have := HD9.out; simp [ByteArray.size]; omega)
            refine hrep.mono ?_
            rintro e w4 ⟨rfl, hx4⟩
            have HX4 : RowKit.Hid (Ext w2 w4) := Lib.hid hx4
            clear hx4 hrep
            go_wp2_with fail
            refine (writeString_any w1.heap.size w1.heap.size (byteCells (textTo true z.natAbs (k + 1))) ⟨(repeatL [48] (9 - nDigits x)).toArray⟩ w4 (isBuilder_ext (isBuilder_ext HBD.out HX2.out) HX4.out) (by rw [byteCells_length, Lib.size_mk, repeatL_zero, List.length_replicate]; have := HSW.out; omega) (by have := HX2.out.size; have := HX4.out.size; omega)).mono ?_
            rintro e w5 ⟨rfl, hb5, hbel5⟩
            rw [strCells_toArray, byteCells_append] at hb5
            go_wp2_with fail
            refine (writeString_any w1.heap.size w1.heap.size _ ⟨(decDigits x).toArray⟩ w5 (.inr hb5) (by rw [byteCells_length, Lib.size_mk, HDL.out, List.length_append, repeatL_zero, List.length_replicate]; have := HSW.out; have := HD9.out; omega) (by have := HX2.out.size; have := HX4.out.size; have := hbel5.size; omega)).mono ?_
            rintro e w3 ⟨rfl, hb3, hbel3⟩
            have htx := textTo_low (neg := true) (n := z.natAbs) (k := k) (by rw [← HL.out]; have := HTOP.out; omega)
            rw [← XX.out] at htx
            rw [strCells_toArray, byteCells_append, List.append_assoc, ← htx] at hb3
            have h6 := HX2.out.size
            go_wp2_with fail
            refine ⟨⟨k, by rw [← HL.out]; omega, by go_num, .inr hb3, Below.trans HBEL.out (Below.trans (Below.mono HX2.out (by omega)) (Below.trans (Below.mono HX4.out (by omega)) (Below.trans hbel5 hbel3)))⟩, by simp only [RowKit.intOf]; omega⟩
end Go.Proofs.YtikfmknnbjocmaaGreatDoor
end
section
set_option linter.unusedVariables false
namespace Go.Proofs.YtikfmknnbjocmaaGreatDoor
open Go.Shelf Go.RowKit Go.Sort Go.Lib
theorem parseM_ok {l : List UInt8} (hd : IsDig l) : ∀ (acc : Nat), rdA acc l < 1000000000000000000 → parseUintM 18446744073709551615 acc l = .ok (rdA acc l) := by
  induction l with
  | nil => intro acc _; rfl
  | cons b l ih =>
    intro acc h
    have hb := hd b (by simp)
    have e1 : rdA acc (b :: l) = rdA (10 * acc + (b.toNat - 48)) l := rfl
    rw [e1] at h ⊢
    have h2 : 10 * acc + (b.toNat - 48) ≤ rdA (10 * acc + (b.toNat - 48)) l := by
      rw [rdA_eq]
      have : 1 ≤ 10 ^ l.length := Nat.one_le_pow _ _ (by omega)
      have := Nat.mul_le_mul_left (10 * acc + (b.toNat - 48)) this
      omega
    have ih' := ih (fun x hx => hd x (by simp [hx])) (10 * acc + (b.toNat - 48)) h
    rw [parseUintM, if_pos hb, if_neg (by omega)]
    rw [show 10 * acc + (b.toNat - 48) = acc * 10 + (b.toNat - 48) by omega] at ih' h h2 ⊢
    first
      | (rw [if_neg (by omega)]; exact ih')
      | (simp only []; rw [if_neg (by omega)]; exact ih')
theorem parseB_ok {l : List UInt8} (hd : IsDig l) (hl : l ≠ []) (h9 : l.length ≤ 9) : parseUintB 64 l = .ok (rd l) := by
  rw [parseUintB, if_neg hl]
  refine parseM_ok hd 0 ?_
  have h1 := rd_lt hd
  have h2 : 10 ^ l.length ≤ 10 ^ 9 := Nat.pow_le_pow_right (by omega) h9
  have h3 : rdA 0 l = rd l := rfl
  omega
theorem trimPrefix_signed {neg : Bool} {l : List UInt8} (hd : IsDig l) (hl : l ≠ []) : trimPrefix (signed neg l) [45] = l ∧ hasPrefix (signed neg l) [45] = neg := by
  cases neg
  · cases l with
    | nil => exact absurd rfl hl
    | cons b l =>
      have hb := hd b (by simp)
      have : ¬ (45 : UInt8) = b := by rintro rfl; simp at hb
      simp [signed, trimPrefix, hasPrefix, List.isPrefixOf, this]
  · simp [signed, trimPrefix, hasPrefix, List.isPrefixOf]
theorem row_of_owns {w : World} {B : Nat} {e : TypeId} {a : Option Addr} {n c : Nat} {xs : List Value} (h : w.ownsRow B e 1 (.slice a n c) n xs) (hn : xs.length = n) : Row w a xs := by
  intro j hj
  rcases h.2 with ⟨h1, h2⟩ | ⟨g, cap, cur, h1, h2⟩
  · omega
  · simp only [Value.slice.injEq] at h1
    obtain ⟨rfl, _, rfl⟩ := h1
    refine ⟨g, 0, rfl, ?_⟩
    have := h.cells (g := g) rfl j (xs.getD j (.bool false)) (by rw [List.getD_eq_getElem?_getD, List.getElem?_eq_getElem hj]; rfl)
    rw [Lib.add_plain] at this; exact this
theorem ext_bytesWorld (w : World) (e : TypeId) (s : ByteArray) : Ext w (bytesWorld w e s) := bytesWorld_below w e s
def ReadRel (W0 : World) (B : Nat) (l : List UInt8) (v i : Value) (wr : World) : Prop :=
  ∃ (e : Int) (ys : List Nat), e ≤ l.length ∧ i = .int .i64 e ∧ -9 < e ∧ ys.length + e.toNat ≤ l.length ∧ ReadSt (rd l) (l.take e.toNat) ys ∧ wr.ownsRow B 192 1 v ys.length (u64s ys) ∧ Below B W0 wr
theorem u64_info : (Tryz.prog.info? 192).map (fun i => (i.zero, i.size, i.bytes)) = some (some (.int .u64 0), 1, 8) := by kernel_rfl
set_option maxRecDepth 100000 in
set_option maxHeartbeats 400000 in
theorem numRead_any (neg : Bool) (l : List UInt8) (w : World) (hd : IsDig l) (hl : l ≠ []) (hlen : l.length ≤ 1000000000) :
    Calls Tryz.prog 106 #[.string ⟨(signed neg l).toArray⟩] w (RetNum w (sgnd neg (rd l))) := by
  obtain ⟨i0, hi, hz0, hz1, hz2⟩ := info_parts u64_info
  obtain ⟨ht1, ht2⟩ := trimPrefix_signed (neg := neg) hd hl
  have HD := Lib.hid hd
  have HL := Lib.hid hl
  clear hd hl
  obtain ⟨w1, hw1⟩ : ∃ w1, w1 = w.alloc (Obj.cells #[Value.bool false, Value.slice none 0 0] 86) := ⟨_, rfl⟩
  have hs1 : w1.heap.size = w.heap.size + 1 := by rw [hw1]; exact size_alloc' _ _
  have HW1 := Lib.hid hw1
  have HS1 := Lib.hid hs1
  clear hw1 hs1
  go_enter Tryz.func106, Tryz.ntmps106
  go_wp2_with fail
  rw [← HW1.out]
  refine (Tryz.strings_CutPrefix ⟨(signed neg l).toArray⟩ ⟨#[45]⟩ w1).mono ?_
  rintro e w2 ⟨rfl, rfl⟩
  rw [show trimPrefix (⟨(signed neg l).toArray⟩ : ByteArray).data.toList (⟨#[45]⟩ : ByteArray).data.toList = l from ht1, show hasPrefix (⟨(signed neg l).toArray⟩ : ByteArray).data.toList (⟨#[45]⟩ : ByteArray).data.toList = neg from ht2]
  clear ht1 ht2
  go_wp2_with fail
  go_loopw [5, 6] (ReadRel w2 w2.heap.size l) (fun _ i _ => (RowKit.intOf i + 9).toNat)
  case atStart => exact ⟨l.length, [], by omega, by simp, by omega, by simp, ⟨Low.nil, by simpa using HD.out, by simp [val]⟩, ⟨rfl, .inl ⟨rfl, rfl⟩⟩, Below.refl _ _⟩
  case round =>
    obtain ⟨e, ys, he, rfl, he9, hle, hst, hown, hbel⟩ := hrel
    obtain ⟨a, n, c, rfl⟩ : ∃ a n c, u5 = .slice a n c := by
      rcases hown.2 with ⟨h1, h2⟩ | ⟨g, cap, cur, h1, h2⟩
      · exact ⟨_, _, _, h1⟩
      · exact ⟨_, _, _, h1⟩
    have HST := Lib.hid hst
    have HOWN := Lib.hid hown
    have HBEL := Lib.hid hbel
    have hsz := hbel.size
    clear hst hown hbel
    by_cases h0 : 0 < e
    · obtain ⟨E, rfl⟩ : ∃ E : Nat, e = E := ⟨e.toNat, by omega⟩
      have hEl : E ≤ l.length := by omega
      have hE0 : 0 < E := by omega
      have hmx : max (0 : Int) ((E : Int) - 9) = ((E - 9 : Nat) : Int) := by omega
      have hsl : ∀ W, (Instr.sliceAt 9 (.string ⟨l.toArray⟩) (some (.int .i64 ((E - 9 : Nat) : Int))) (some (.int .i64 (E : Int))) none).run Tryz.prog W = .ok (.string ⟨((l.take E).drop (E - 9)).toArray⟩) W := by
        intro W
        have h1 : (0 : Int) ≤ ((E - 9 : Nat) : Int) ∧ ((E - 9 : Nat) : Int) ≤ (E : Int) := by omega
        have h2 : (0 : Int) ≤ (E : Int) ∧ (E : Int) ≤ (⟨l.toArray⟩ : ByteArray).size := by rw [Lib.size_mk]; omega
        have h3 : (⟨l.toArray⟩ : ByteArray).extract (E - 9) E = ⟨((l.take E).drop (E - 9)).toArray⟩ := by
          rw [Lib.extract_mk, List.drop_take]
        simp only [Instr.sliceAt, Sem.run_bind, run_underlying Tryz.underlying9, Result.andThen_ok, Instr.slice, Instr.sliceBounds, Instr.sliceBound, asIntOf, Sem.run_pure, if_true, Option.isSome, Sem.run_ite, h1, h2, and_self, Int.toNat_natCast]
        simp [h3]
      have hdd : IsDig ((l.take E).drop (E - 9)) := (HD.out.take E).drop (E - 9)
      have hl9 : ((l.take E).drop (E - 9)).length ≤ 9 := by simp; omega
      have hne : (l.take E).drop (E - 9) ≠ [] := by intro h; have := congrArg List.length h; simp at this; omega
      have hrd := rd_lt hdd
      have hr9 : rd ((l.take E).drop (E - 9)) < 1000000000 := Nat.lt_of_lt_of_le hrd (by rw [show (1000000000 : Nat) = 10 ^ 9 from rfl]; exact Nat.pow_le_pow_right (by omega) hl9)
      have hstep := HST.out.step
      rw [show (l.take ((E : Int)).toNat) = l.take E from rfl, List.length_take, Nat.min_eq_left hEl] at hstep
      have hpu := Tryz.strconv_ParseUint_10_at64_ok ⟨((l.take E).drop (E - 9)).toArray⟩ (by rw [Lib.size_mk]; omega) (rd ((l.take E).drop (E - 9))) (parseB_ok hdd hne hl9) wr
      have HPU := Lib.hid hpu
      have HSTEP := Lib.hid hstep
      clear hpu hstep hrd hdd hne hl9
      go_wp2_with fail
      obtain ⟨d, hdef⟩ : ∃ d, d = rd ((l.take E).drop (E - 9)) := ⟨_, rfl⟩
      rw [← hdef] at hr9
      have HDEF := Lib.hid hdef
      clear hdef
      refine HPU.out.mono ?_
      rintro e w3 ⟨rfl, hw3⟩
      rw [← HDEF.out]
      have HX3 : RowKit.Hid (Ext wr w3) := Lib.hid (by
        rcases hw3 with rfl | rfl
        · exact Ext.refl _
        · exact ext_bytesWorld _ _ _)
      clear hw3
      have hsz3 := HX3.out.size
      go_wp2_with (at_builtin; refine wpList_append_own _ rfl _ _ 84 rfl w2.heap.size 192 i0 (.int .u64 0) 1 8 Tryz.underlying84 hi hz0 hz1 hz2 rfl (by decide) _ _ _ rfl ((ownsRow_ext HOWN.out HX3.out).alloc _) ⟨w3.heap.size, 0, none⟩ 1 1 [.int .u64 (d : Int)] rfl rfl ?c1 ?c2 ?c3 ?c4 ?c5 ?_)
      case c1 =>
        intro j u hj
        match j, hj with
        | 0, hj => simp at hj; subst hj; simp [Addr.add]
      case c2 => intro u hu; simp at hu; subst hu; rfl
      case c3 => unfold maxLen; omega
      case c4 => omega
      case c5 => simp; omega
      intro v' w4 hown' hgrow _
      go_wp2_with fail
      refine ⟨⟨(E : Int) - 9, ys ++ [d], by omega, by go_num, by omega, by simp; omega, ?_, by simpa [u64s] using hown', ?_⟩, by simp only [RowKit.intOf]; omega⟩
      · rw [HDEF.out, show (l.take ((E : Int) - 9).toNat) = (l.take E).take (E - 9) by rw [List.take_take]; congr 1; omega]
        exact HSTEP.out
      · have h5 : Below w2.heap.size wr w3 := Below.mono HX3.out (by omega)
        exact (((HBEL.out.trans h5).alloc (by omega) _).grown hgrow (by simp; omega) (fun k hk => (HOWN.out.lt k hk).1))
    · have hln := HOWN.out.1
      have hval : val ys = rd l := by
        have := HST.out.sum
        rw [show e.toNat = 0 by omega] at this
        simpa [rd, rdA] using this.symm
      obtain ⟨rfl, hcap⟩ : n = ys.length ∧ ys.length ≤ c := by
        rcases HOWN.out.2 with ⟨h1, h2⟩ | ⟨g, cap, cur, h1, h2, h3, h4, _⟩
        · simp at h1; omega
        · simp at h1; obtain ⟨_, rfl, rfl⟩ := h1; exact ⟨rfl, h4⟩
      have hrow := row_of_owns HOWN.out (by simp)
      have HROW := Lib.hid hrow
      have HVAL := Lib.hid hval
      clear hrow hval hln
      go_wp2_with fail
      refine (trim_len a c ys.length ys wr rfl (by omega) hcap HROW.out).mono ?_
      rintro e w' ⟨rfl, hww⟩
      subst hww
      go_wp2_with fail
      refine (number_any neg _ (rd l) wr (nat_of_trim HST.out.low HROW.out HVAL.out hcap) (Nat.le_trans (nl_le_of_lt (k := l.length) (Nat.lt_of_lt_of_le (rd_lt HD.out) (by rw [ten9]; exact Nat.pow_le_pow_right (by omega) (by omega)))) (by omega))).mono ?_
      rintro e w5 ⟨v5, rfl, ⟨a5, n5, c5, rfl, hs5⟩, hx5⟩
      have HX5 := Lib.hid hx5
      have HS5 := Lib.hid hs5
      have hlt : w.heap.size < w2.heap.size := by rw [HS1.out]; omega
      have BB : RowKit.Hid (w5.heap[w.heap.size]? = some (.cells #[.bool false, .slice none 0 0] 86 (0, 0))) := Lib.hid (by
        rw [Below.block HX5.out _ (by omega), HBEL.out.block _ hlt, HW1.out, heap_alloc_eq])
      have d0 := cell2_0 BB.out
      have d1 := cell2_1 BB.out
      have f0 := frozen_of_row _ _ 0 _ _ BB.out
      have f1 := frozen_of_row _ _ 1 _ _ BB.out
      clear hs5 hx5
      go_wp2_with fail
      have HXX : Ext w w5 := by
        refine Ext.trans (b := w2) (by rw [HW1.out]; exact Ext.alloc (Ext.refl w) _) ?_
        exact Below.trans HBEL.out (Below.mono HX5.out (by omega))
      refine ret_num rfl rfl (blk2_set BB.out) rfl ⟨_, rfl, ?_, ext2 HXX (Nat.le_refl _) _ _⟩
      have hs := HS5.out.grown (noInts2 BB.out) (grown2 _ _ (.bool (decide (sgnd neg (rd l) < 0))) (.slice a5 n5 c5))
      exact num_of' rfl hs
end Go.Proofs.YtikfmknnbjocmaaGreatDoor
end
section
set_option linter.unusedSectionVars false
set_option linter.unusedVariables false
namespace Go.Proofs.YtikfmknnbjocmaaGreatDoor
open Go.RowKit
def TabU (u : PH) : Prop := ∀ w, Part u w → Lib.TabIs Tryz.prog w "internal/strconv.uint64pow10" .u64 Lib.pow10Tab
theorem TabU.mono {u u' : PH} (h : TabU u) (hl : PH.le u u') : TabU u' := fun w hp => h w (fun g o hg => hp g o (hl g o hg))
section
variable {u : PH} {x : Value}
theorem formatUint0 {k : Nat} (ht : TabU u) (hk : k < 18446744073709551616) : Fn0 Tryz.prog 159 [.int .u64 (k : Int), .int .i64 10] u fun v _ => v = .string (mkS (Lib.decDigits k)) :=
  Fn0.ofW (fun v _ => v = .string (mkS (Lib.decDigits k))) (fun w hp => (formatUintS_any k hk w (ht w hp)).mono fun _ _ ⟨e, h⟩ => ⟨_, e, rfl, h⟩) (fun _ _ _ h _ _ _ => h)
theorem numRead0 {z : Int} (h : Lib.nDigits z.natAbs ≤ 400) : Fn0 Tryz.prog 106 [.string (mkS (Lib.itoa z))] u fun v u' => NumP u' v z := by
  refine Fn0.ofW (fun v w => NumV w v z) (fun w _ => ?_) (fun _ _ _ h _ c _ => NumP.ofW h c)
  have := numRead_any (decide (z < 0)) (Lib.decDigits z.natAbs) w (dec_dig _) (dec_ne_nil _) (by rw [Lib.decDigits_length]; omega)
  rw [sgnd_itoa, ← itoa_signed] at this
  exact this
theorem numString0 {z : Int} (ht : TabU u) (h : NumP u x z) (hs : nl z.natAbs ≤ 100000000000) : Fn0 Tryz.prog 160 [x] u fun v _ => v = .string (mkS (Lib.itoa z)) :=
  Fn0.ofW (fun v _ => v = .string (mkS (Lib.itoa z))) (fun w hp => (numString_any x z w (h.toW hp) hs (ht w hp)).mono fun _ _ ⟨e, h⟩ => ⟨_, e, rfl, h⟩) (fun _ _ _ h _ _ _ => h)
end
theorem NatP.at {u : PH} {a : Option Addr} {n c k j : Nat} (h : NatP u (.slice a n c) k) (hj : j < (limbs k).length) : ∃ b off, a = some ⟨b, off, none⟩ ∧ ElP u b (off + j * 1) (.int .u64 ((limbs k).getD j 0 : Nat)) := by
  obtain ⟨a', c', h1, h2, h3⟩ := h
  simp only [Value.slice.injEq] at h1
  obtain ⟨rfl, _, rfl⟩ := h1
  obtain ⟨b, off, e1, e2⟩ := h3 j (by simpa using hj)
  refine ⟨b, off, e1, fun i y hi => ?_⟩
  have hx : (u64s (limbs k)).getD j (.bool false) = .int .u64 ((limbs k).getD j 0 : Nat) := by simp [u64s, hj]
  rw [hx] at e2
  have : i = 0 ∧ y = .int .u64 ((limbs k).getD j 0 : Nat) := by
    match i, hi with
    | 0, hi => simp [Value.cells] at hi; simp [hi]
  obtain ⟨rfl, rfl⟩ := this
  simpa using e2
theorem numDigits0 {u : PH} {x : Value} {z : Int} (ht : TabU u) (h : NumP u x z) (hs : nl z.natAbs ≤ 100000000000) : Fn0 Tryz.prog 129 [x] u fun v _ => v = .int .i64 (Lib.nDigits z.natAbs : Nat) := by
  obtain ⟨a, n, c, rfl, hn⟩ := h
  obtain rfl : n = (limbs z.natAbs).length := by obtain ⟨_, _, h1, _⟩ := id hn; simp at h1; exact h1.2.1
  generalize decide (z < 0) = b
  have hs' : (limbs z.natAbs).length ≤ 100000000000 := hs
  refine Fn0.of Tryz.func129 (by kernel_rfl) (by kernel_rfl) ?_
  by_cases h0 : z.natAbs = 0
  · refine G.eqlT ((limbs z.natAbs).length : Int) 0 (by kernel_rfl) (by rw [h0, limbs_zero]; rfl) ?_
    exact G.ret (.int .i64 1) (by kernel_rfl) ⟨rfl, by rw [h0, Lib.nDigits_small (by omega)]; rfl⟩
  · have hp : 0 < (limbs z.natAbs).length := len_pos.2 (by omega)
    have htop := nDigits_top h0
    have hlow := (low_limbs z.natAbs).getD ((limbs z.natAbs).length - 1)
    obtain ⟨bb, off, rfl, he⟩ := hn.at (j := (limbs z.natAbs).length - 1) (by omega)
    have h9 := nDigits_le9 hlow
    have hdl := Lib.decDigits_length ((limbs z.natAbs).getD ((limbs z.natAbs).length - 1) 0)
    have hsz : (mkS (Lib.decDigits ((limbs z.natAbs).getD ((limbs z.natAbs).length - 1) 0))).size = (Lib.decDigits ((limbs z.natAbs).getD ((limbs z.natAbs).length - 1) 0)).length := Go.Lib.size_mk _
    refine G.eqlF ((limbs z.natAbs).length : Int) 0 (by kernel_rfl) (by omega) ?_
    refine G.sub ((limbs z.natAbs).length : Int) 1 (((limbs z.natAbs).length - 1 : Nat) : Int) (by kernel_rfl) (by omega) (by omega) (by omega) ?_
    refine G.mul 9 (((limbs z.natAbs).length - 1 : Nat) : Int) ((9 * ((limbs z.natAbs).length - 1) : Nat) : Int) (by kernel_rfl) (by omega) (by omega) (by omega) ?_
    refine G.addr bb off (limbs z.natAbs).length c ((limbs z.natAbs).length - 1) 1 (by kernel_rfl) (by omega) ?_
    refine G.loadU none bb (off + ((limbs z.natAbs).length - 1) * 1) (.int .u64 ((limbs z.natAbs).getD ((limbs z.natAbs).length - 1) 0 : Nat)) (by kernel_rfl) (by kernel_rfl) he ?_
    refine G.call0 _ _ (by kernel_rfl) Tryz.call159 (formatUint0 (k := (limbs z.natAbs).getD ((limbs z.natAbs).length - 1) 0) ht (by omega)) ?_
    rintro v1 u1 l1 rfl
    refine G.add ((9 * ((limbs z.natAbs).length - 1) : Nat) : Int) ((Lib.decDigits ((limbs z.natAbs).getD ((limbs z.natAbs).length - 1) 0)).length : Int) ((Lib.nDigits z.natAbs : Nat) : Int) (by kernel_rfl) (by omega) (by omega) (by omega) ?_
    exact G.ret _ (by kernel_rfl) ⟨rfl, rfl⟩
theorem fracRat0 {u : PH} {x : Value} {q : Rat} (ht : TabU u) (hx : FracP u x q) (h : Tx q) : Fn0 Tryz.prog 130 [x] u fun v _ => v = .string (mkS (ratT q)) := by
  obtain ⟨b, a, n, c, b', a', n', c', rfl⟩ := hx.opn
  have hd := Nat.le_trans (nl_of_dig h.2) (show 400 ≤ 4000000000000 by omega)
  refine Fn0.of Tryz.func130 (by kernel_rfl) (by kernel_rfl) ?_
  refine G.call0 _ _ (by kernel_rfl) Tryz.call138 (fracWhole0 hx hd) ?_
  rintro v1 u1 l1 rfl
  by_cases h1 : q.den = 1
  · rw [decide_eq_true h1]
    refine G.call0 _ _ (by kernel_rfl) Tryz.call160 (numString0 (ht.mono l1) (hx.num.mono l1) (Nat.le_trans (nl_of_dig h.1) (by omega))) ?_
    rintro v2 u2 l2 rfl
    exact G.ret (.string (mkS (Lib.itoa q.num))) (by kernel_rfl) ⟨rfl, by rw [ratT, if_pos h1]⟩
  · rw [decide_eq_false h1]
    refine G.call0 _ _ (by kernel_rfl) Tryz.call160 (numString0 (ht.mono l1) (hx.num.mono l1) (Nat.le_trans (nl_of_dig h.1) (by omega))) ?_
    rintro v2 u2 l2 rfl
    have e1 := itoa_len h.1
    have e2 := itoa_len h.den
    refine G.addS (Lib.itoa q.num) [47] (by kernel_rfl) (by simp; omega) ?_
    refine G.call0 _ _ (by kernel_rfl) Tryz.call160 (numString0 (ht.mono (l1.trans l2)) (hx.den.mono (l1.trans l2)) (Nat.le_trans (nl_of_dig h.den) (by omega))) ?_
    rintro v3 u3 l3 rfl
    refine G.addS (Lib.itoa q.num ++ [47]) (Lib.itoa (q.den : Int)) (by kernel_rfl) (by simp; omega) ?_
    exact G.ret (.string (mkS (Lib.itoa q.num ++ [47] ++ Lib.itoa (q.den : Int)))) (by kernel_rfl) ⟨rfl, by rw [ratT, if_neg h1]; simp⟩
theorem fracFits0 {u : PH} {x : Value} {q : Rat} (ht : TabU u) (hx : FracP u x q) (h : Tx q) : Fn0 Tryz.prog 87 [x] u fun v _ => v = .tuple #[.string (mkS (ratT q)), .int .i64 0] := by
  obtain ⟨b, a, n, c, b', a', n', c', rfl⟩ := hx.opn
  have h2 := h.2
  have h1 := h.1
  refine Fn0.of Tryz.func87 (by kernel_rfl) (by kernel_rfl) ?_
  refine G.call0 _ _ (by kernel_rfl) Tryz.call129 (numDigits0 ht hx.num (Nat.le_trans (nl_of_dig h.1) (by omega))) ?_
  rintro v1 u1 l1 rfl
  refine G.gtrF ((Lib.nDigits q.num.natAbs : Nat) : Int) 400 (by kernel_rfl) (by omega) ?_
  refine G.call0 _ _ (by kernel_rfl) Tryz.call129 (numDigits0 (ht.mono l1) (hx.den.mono l1) (Nat.le_trans (nl_of_dig h.den) (by omega))) ?_
  rintro v2 u2 l2 rfl
  have h3 := h.den
  refine G.gtrF ((Lib.nDigits ((q.den : Int)).natAbs : Nat) : Int) 400 (by kernel_rfl) (by omega) ?_
  refine G.call0 _ _ (by kernel_rfl) Tryz.call130 (fracRat0 (ht.mono (l1.trans l2)) (hx.mono (l1.trans l2)) h) ?_
  rintro v3 u3 l3 rfl
  exact G.ret _ (by kernel_rfl) ⟨rfl, rfl⟩
end Go.Proofs.YtikfmknnbjocmaaGreatDoor
end
