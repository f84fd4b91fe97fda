/- Joined out of parts of one proof by a program: contracts of the functions that the statement reaches, and the plain facts behind them. -/
import Derived.Test.YtpdboaedoimahaaGreatDoorKD10
set_option linter.unusedVariables false
set_option linter.unusedSimpArgs false
set_option linter.unusedSectionVars false
section
set_option linter.unusedSectionVars false
set_option linter.unusedVariables false
namespace Go.Proofs.YtpdboaedoimahaaGreatDoor
open Go.RowKit Go.MapKept
theorem Src.h0or (s : Src) (k k' : Nat) (n0 : PH) (g : Nat) : s.M k g = none ∨ (n0.or (s.M k')) g ≠ none := by
 rcases s.h0 k k' g with e | e
 ·exact .inl e
 ·right
  intro h
  cases hx : n0 g with
  | some o => rw [PH.or_l hx] at h; cases h
  | none => rw [PH.or_r hx] at h; exact e h
theorem bag_off {m : PH} {a b c d : Arr} (h : Bag m [a, b, c, d]) : Bag m [a, c, d] := by
 have h1 : Bag m [a, c, d, b] := Bag.perm (List.Perm.cons a ((List.Perm.swap c b [d]).trans (List.Perm.cons c (List.Perm.swap d b [])))) h
 obtain ⟨p0, q0, p1, q1, p2, q2, _⟩ := h1
 exact ⟨p0, q0, p1, q1, p2, q2, trivial⟩
theorem kinds4 {x : Int} (h : x ∈ [1, 2, 2, (3 : Int)]) : ∃ n : Nat, x = (n : Int) ∧ 1 ≤ n ∧ n ≤ 3 := by
 simp at h
 rcases h with rfl | rfl | rfl
 ·exact ⟨1, rfl, by omega, by omega⟩
 ·exact ⟨2, rfl, by omega, by omega⟩
 ·exact ⟨3, rfl, by omega, by omega⟩
set_option maxHeartbeats 8000000 in
theorem srcSchema0 {u : PH} {s : Src} {ts : List Int} {k : Nat} (most : Nat) (hm1 : 1 ≤ most) (hm6 : most ≤ 6) (h : SrcOK u s ts) (hk : k ≤ s.n) :
  Contract Tryz.prog 8 [s.ptr, .int .i64 (most : Int)] u (s.M k) fun v u' m' => ∃ (T : List (List UInt8 × Nat)) (R : List SRel) (F : List Feat) (lab : Int) (k' : Nat), SchP u' v T R F lab ∧ SchOK u' T R F lab ∧ T.length ≤ 6 ∧ k' ≤ s.n ∧ m' = s.M k' := by
 refine Contract.of Tryz.func8 (by kernel_rfl) (by kernel_rfl) ?_
 refine G.callA _ _ (by kernel_rfl) (by kernel_rfl) Tryz.call23 (mt_or _).symm (apart_mt _) (srcRange0 (lo := 1) (hi := 3) (n := 3) h hk (by omega) (by omega) (by omega) (by omega) (by omega)) ?_
 rintro v1 u1 m1 l1 ⟨r, k1, rfl, hr, hk1, rfl⟩ _
 rw [mt_or]
 obtain ⟨n, hn⟩ : ∃ n : Nat, (1 : Int) + (r : Int) = (n : Int) := ⟨1 + r, by omega⟩
 rw [hn]
 refine G.loop (ι := Nat × Nat × List (List UInt8 × Nat) × (Option Addr × Nat) × List SRel × (Option Addr × Nat)) (fun i => [(0, .v s.ptr), (1, .v (.int .i64 (most : Int))), (4, .p 0 0), (5, .p 1001 0), (6, .v (.int .i64 (n : Int))), (7, .v (.int .i64 (i.1 : Int)))])
  (fun i => [(0, ⟨30, [.v (.slice none 0 0), .v (.slice none 0 0), .v (.slice none 0 0), .v (.int .i64 0)]⟩), (1001, ⟨30, [.v (.slice i.2.2.2.1.1 i.2.2.1.length i.2.2.2.1.2), .v (.slice i.2.2.2.2.2.1 i.2.2.2.2.1.length i.2.2.2.2.2.2), .v (.slice none 0 0), .v (.int .i64 (-1))]⟩)])
  (fun i u' m' => i.1 ≤ n ∧ i.2.1 ≤ s.n ∧ TOK i.2.2.1 ∧ ROK u' i.2.2.1.length i.2.2.2.2.1 ∧ i.2.2.2.2.1.length = i.1 ∧ (0 < i.1 → 0 < i.2.2.1.length) ∧ Bag m' [s.arr i.2.1, aArr i.2.2.2.1.1 i.2.2.2.1.2 i.2.2.1, rArr i.2.2.2.2.2.1 i.2.2.2.2.2.2 i.2.2.2.2.1])
  (fun i => n - i.1) (0, k1, [], (none, 0), [], (none, 0)) (by kernel_rfl) (fun _ => by kernel_rfl) ⟨by kernel_rfl, by kernel_rfl, by kernel_rfl⟩
  ⟨Nat.zero_le _, hk1, TOK.nil, ROK.nil, rfl, fun h => absurd h (by simp), s.bag0 k1 ⟨PH.mt, ArrAt.nil _ _ _, PH.mt, ArrAt.nil _ _ _, trivial⟩⟩ ?_
 rintro J ⟨i, k2, T, ⟨ta, tc⟩, R, ⟨ra, rc⟩⟩ hJ u2 m2 l2 ⟨hi, hk2, hT, hR, hRl, h0, hbag⟩
 simp only at hi hk2 hT hR hRl h0 hbag hJ
 subst hRl
 have le2 := l1.trans l2
 have hT6 := hT.le
 by_cases hlt : R.length < n
 ·refine G.lssT (R.length : Int) (n : Int) (by kernel_rfl) (by omega) ?_
  refine G.loop (ι := Nat × Nat × List Nat × (Option Addr × Nat)) (fun i => [(0, .v s.ptr), (1, .v (.int .i64 (most : Int))), (4, .p 0 0), (5, .p 1001 0), (6, .v (.int .i64 (n : Int))), (7, .v (.int .i64 (R.length : Int))), (8, .v (.slice i.2.2.2.1 i.2.2.1.length i.2.2.2.2)), (23, .v (.int .i64 (T.length : Int))), (24, .v (.int .i64 (i.1 : Int)))])
   (fun i => [(0, ⟨30, [.v (.slice none 0 0), .v (.slice none 0 0), .v (.slice none 0 0), .v (.int .i64 0)]⟩), (1001, ⟨30, [.v (.slice ta T.length tc), .v (.slice ra R.length rc), .v (.slice none 0 0), .v (.int .i64 (-1))]⟩)])
   (fun i u' m' => i.1 ≤ T.length ∧ i.2.1 ≤ s.n ∧ LOK i.2.2.1 i.1 ∧ Bag m' [s.arr i.2.1, iArr i.2.2.2.1 i.2.2.2.2 i.2.2.1, aArr ta tc T, rArr ra rc R])
   (fun i => T.length - i.1) (0, k2, [], (none, 0)) (by kernel_rfl) (fun _ => by kernel_rfl) ⟨by kernel_rfl, by kernel_rfl, by kernel_rfl⟩
   ⟨Nat.zero_le _, hk2, LOK.nil, by obtain ⟨m0, hs0, hL⟩ := hbag; exact ⟨m0, hs0, m0, ArrAt.nil _ _ _, hL⟩⟩ ?_
  rintro J1 ⟨j, k3, l, ⟨la, lc⟩⟩ hJ1 u3 m3 l3 ⟨hj, hk3, hl, hbag3⟩
  simp only at hj hk3 hl hbag3 hJ1
  have hll := hl.len
  by_cases hltj : j < T.length
  ·refine G.lssT (j : Int) (T.length : Int) (by kernel_rfl) (by omega) ?_
   obtain ⟨n4, hsrc4, hL4⟩ := hbag3
   obtain ⟨rfl, hg4⟩ := Src.split hsrc4
   refine G.callA _ _ (by kernel_rfl) (by kernel_rfl) Tryz.call24 rfl (Src.apart hg4) (srcN0 (n := 3) (h.mono (le2.trans l3)) hk3 (by omega) (by omega)) ?_
   rintro v4 u4 m4 l4 ⟨r4, k4, rfl, hr4, hk4, rfl⟩ _
   have hbag4 : Bag _ [s.arr k4, iArr la lc l, aArr ta tc T, rArr ra rc R] := ⟨_, Src.at hg4, hL4⟩
   by_cases hr0 : r4 = 0
   ·refine G.eqlT (r4 : Int) 0 (by kernel_rfl) (by omega) ?_
    refine G.buildU 3 1 8 (.int .i64 0) [.int .i64 (j : Int)] (by kernel_rfl) (intsV_ok [j]) rfl (by omega) (by simp) (by simp) ?_
    intro g6 u6 l6 e6
    obtain ⟨mm6, hx6, hput6⟩ := hbag4.focus 1 rfl
    rw [iArr_at] at hx6
    refine G.append 3 1 8 (.int .i64 0) mm6 (intsV l) [.int .i64 (j : Int)] (.slice la l.length lc) g6 0 1 1 (by kernel_rfl) rfl rfl (by omega) hx6 e6 (intsV_ok [j]) rfl (by omega) (by simp [intsV]; omega) (by simp [intsV]; omega) ?_
    intro w6 mn6 hy6
    rw [intsV_snoc] at hy6
    obtain ⟨a6, c6, rfl⟩ := hy6.shape
    rw [intsV_length] at hy6 ⊢
    have hbag6 := hput6 (iArr a6 c6 (l ++ [j])) mn6 hy6
    simp only [List.set_cons_succ, List.set_cons_zero] at hbag6
    refine G.add (j : Int) 1 ((j + 1 : Nat) : Int) (by kernel_rfl) (by omega) (by omega) (by omega) ?_
    exact G.back (by kernel_rfl) (hJ1 (j + 1, k4, l ++ [j], (a6, c6)) _ _ _ ⟨by kernel_rfl, by kernel_rfl, by kernel_rfl⟩ ((l3.trans l4).trans l6) ⟨by dsimp only; omega, hk4, hl.snoc, hbag6⟩ (by dsimp only; omega))
   ·refine G.eqlF (r4 : Int) 0 (by kernel_rfl) (by omega) ?_
    refine G.add (j : Int) 1 ((j + 1 : Nat) : Int) (by kernel_rfl) (by omega) (by omega) (by omega) ?_
    exact G.back (by kernel_rfl) (hJ1 (j + 1, k4, l, (la, lc)) _ _ _ ⟨by kernel_rfl, by kernel_rfl, by kernel_rfl⟩ (l3.trans l4) ⟨by dsimp only; omega, hk4, hl.up, hbag4⟩ (by dsimp only; omega))
  ·obtain rfl : j = T.length := by omega
   refine G.lssF (T.length : Int) (T.length : Int) (by kernel_rfl) (by omega) ?_
   obtain ⟨n4, hsrc4, hL4⟩ := hbag3
   obtain ⟨rfl, hg4⟩ := Src.split hsrc4
   refine G.callA _ _ (by kernel_rfl) (by kernel_rfl) Tryz.call24 rfl (Src.apart hg4) (srcN0 (n := 3) (h.mono (le2.trans l3)) hk3 (by omega) (by omega)) ?_
   rintro v4 u4 m4 l4 ⟨r4, k4, rfl, hr4, hk4, rfl⟩ _
   have hbag4 : Bag _ [s.arr k4, iArr la lc l, aArr ta tc T, rArr ra rc R] := ⟨_, Src.at hg4, hL4⟩
   refine G.loop (ι := Int × Nat × List Nat × (Option Addr × Nat) × List (List UInt8 × Nat) × (Option Addr × Nat)) (fun i => [(0, .v s.ptr), (1, .v (.int .i64 (most : Int))), (4, .p 0 0), (5, .p 1001 0), (6, .v (.int .i64 (n : Int))), (7, .v (.int .i64 (R.length : Int))), (8, .v (.slice i.2.2.2.1.1 i.2.2.1.length i.2.2.2.1.2)), (10, .v (.int .i64 i.1))])
    (fun i => [(0, ⟨30, [.v (.slice none 0 0), .v (.slice none 0 0), .v (.slice none 0 0), .v (.int .i64 0)]⟩), (1001, ⟨30, [.v (.slice i.2.2.2.2.2.1 i.2.2.2.2.1.length i.2.2.2.2.2.2), .v (.slice ra R.length rc), .v (.slice none 0 0), .v (.int .i64 (-1))]⟩)])
    (fun i u' m' => i.2.1 ≤ s.n ∧ (i.2.2.1 = [] → 0 ≤ i.1) ∧ -1 ≤ i.1 ∧ i.1 ≤ 2 ∧ T.length ≤ i.2.2.2.2.1.length ∧ TOK i.2.2.2.2.1 ∧ LOK i.2.2.1 i.2.2.2.2.1.length ∧ (∀ a, T.length ≤ a → a < i.2.2.2.2.1.length → a ∈ i.2.2.1) ∧ Bag m' [s.arr i.2.1, iArr i.2.2.2.1.1 i.2.2.2.1.2 i.2.2.1, aArr i.2.2.2.2.2.1 i.2.2.2.2.2.2 i.2.2.2.2.1, rArr ra rc R])
    (fun i => (i.1 + 1).toNat) ((r4 : Int), k4, l, (la, lc), T, (ta, tc)) (by kernel_rfl) (fun _ => by kernel_rfl) ⟨by kernel_rfl, by kernel_rfl, by kernel_rfl⟩
    ⟨hk4, fun _ => by dsimp only; omega, by dsimp only; omega, by dsimp only; omega, Nat.le_refl _, hT, hl, fun a h1 h2 => by dsimp only at h2; omega, hbag4⟩ ?_
   rintro J2 ⟨z, k5, l5, ⟨la5, lc5⟩, T5, ⟨ta5, tc5⟩⟩ hJ2 u5 m5 l5' ⟨hk5, hz0, hz1, hz2, hTle5, hT5, hl5, hall5, hbag5⟩
   simp only at hk5 hz0 hz1 hz2 hTle5 hT5 hl5 hall5 hbag5 hJ2
   have hT56 := hT5.le
   have hl56 := hl5.len
   have le5 := ((le2.trans l3).trans l4).trans l5'
   have lo5 := (l3.trans l4).trans l5'
   by_cases hz : 0 < z
   ·refine G.gtrT z 0 (by kernel_rfl) (by omega) ?_
    by_cases hlen : T5.length < most
    ·refine G.lssT (T5.length : Int) (most : Int) (by kernel_rfl) (by omega) ?_
     refine G.buildU 3 1 8 (.int .i64 0) [.int .i64 (T5.length : Int)] (by kernel_rfl) (intsV_ok [T5.length]) rfl (by omega) (by simp) (by simp) ?_
     intro g21 u21 l21 e21
     obtain ⟨mm21, hx21, hput21⟩ := hbag5.focus 1 rfl
     rw [iArr_at] at hx21
     refine G.append 3 1 8 (.int .i64 0) mm21 (intsV l5) [.int .i64 (T5.length : Int)] (.slice la5 l5.length lc5) g21 0 1 1 (by kernel_rfl) rfl rfl (by omega) hx21 e21 (intsV_ok [T5.length]) rfl (by omega) (by simp [intsV]; omega) (by simp [intsV]; omega) ?_
     intro w21 mn21 hy21
     rw [intsV_snoc] at hy21
     obtain ⟨a21, c21, rfl⟩ := hy21.shape
     rw [intsV_length] at hy21 ⊢
     have hbag21 := hput21 (iArr a21 c21 (l5 ++ [T5.length])) mn21 hy21
     simp only [List.set_cons_succ, List.set_cons_zero] at hbag21
     refine G.both [0, 1, 2, 3, 4, 6] 5 7 [8, 9, 10, 11, 12, 13] (by kernel_rfl) ?_ ?_
     ·refine G.call0 _ _ (by kernel_rfl) Tryz.call25 (letter0 (p := [97]) (i := T5.length) (by omega) (by simp)) ?_
      rintro v22 u22 l22 rfl
      refine G.buildU 3 1 8 (.int .i64 0) [.int .i64 1, .int .i64 2, .int .i64 2, .int .i64 3] (by kernel_rfl) (intsZ_ok [1, 2, 2, 3]) rfl (by omega) (by simp) (by simp) ?_
      intro g23 u23 l23 e23
      have le23 := (((le5).trans l21).trans l22).trans l23
      have lq23 := l22.trans l23
      have e23p := e23.listP
      obtain ⟨n24, hsrc24, hL24⟩ := hbag21
      obtain ⟨rfl, hg24⟩ := Src.split hsrc24
      refine G.callA _ _ (by kernel_rfl) (by kernel_rfl) Tryz.call26 rfl (Src.apart hg24) (srcPick0 (L := [1, 2, 2, 3]) (h.mono le23) hk5 e23p (by simp) (by simp)) ?_
      rintro v24 u24 m24 l24 ⟨kd, hkd, k24, rfl, hk24, rfl⟩ _
      obtain ⟨kn, rfl, hkn1, hkn3⟩ := kinds4 hkd
      have hbag24 : Bag (n24.or (s.M k24)) [s.arr k24, iArr a21 c21 (l5 ++ [T5.length]), aArr ta5 tc5 T5, rArr ra rc R] := ⟨n24, Src.at hg24, hL24⟩
      refine G.buildU 61 2 24 (.agg #[.string (mkS []), .int .i64 0]) [.agg #[.string (mkS (nmA T5.length)), .int .i64 (kn : Int)]] (by kernel_rfl) (attV_ok (nmA T5.length, kn)) rfl (by omega) (by simp) (by simp) ?_
      intro g25 u25 l25 e25
      obtain ⟨mm25, hx25, hput25⟩ := hbag24.focus 2 rfl
      rw [aArr_at] at hx25
      refine G.append 61 2 24 (.agg #[.string (mkS []), .int .i64 0]) mm25 (T5.map attV) [.agg #[.string (mkS (nmA T5.length)), .int .i64 (kn : Int)]] (.slice ta5 T5.length tc5) g25 0 1 1 (by kernel_rfl) rfl rfl (by omega) hx25 e25 (attV_ok (nmA T5.length, kn)) rfl (by omega) (by simp [intsV]; omega) (by simp [intsV]; omega) ?_
      intro w25 mn25 hy25
      rw [show T5.map attV ++ [.agg #[.string (mkS (nmA T5.length)), .int .i64 (kn : Int)]] = (T5 ++ [(nmA T5.length, kn)]).map attV by rw [List.map_append]; rfl] at hy25
      obtain ⟨a25, c25, rfl⟩ := hy25.shape
      rw [List.length_map] at hy25 ⊢
      have hbag25 := hput25 (aArr a25 c25 (T5 ++ [(nmA T5.length, kn)])) mn25 hy25
      simp only [List.set_cons_succ, List.set_cons_zero] at hbag25
      refine G.sub z 1 (z - 1) (by kernel_rfl) (by omega) (by omega) (by omega) ?_
      exact G.back (by kernel_rfl) (hJ2 (z - 1, k24, l5 ++ [T5.length], (a21, c21), T5 ++ [(nmA T5.length, kn)], (a25, c25)) _ _ _ ⟨by kernel_rfl, by kernel_rfl, by kernel_rfl⟩ ((((l5'.trans l21).trans lq23).trans l24).trans l25) ⟨hk24, fun e => by simp at e, by dsimp only; omega, by dsimp only; omega, by dsimp only; rw [List.length_append]; omega, hT5.snoc hkn1 hkn3 (by omega), by dsimp only; rw [List.length_append]; exact hl5.snoc, fun a h1 h2 => by
       dsimp only at h2 ⊢
       rw [List.length_append, List.length_singleton] at h2
       rcases Nat.lt_or_ge a T5.length with e | e
       ·exact List.mem_append_left _ (hall5 a h1 e)
       ·exact List.mem_append_right _ (List.mem_singleton.2 (by omega)), hbag25⟩ (by dsimp only; omega))
     ·refine G.buildU 3 1 8 (.int .i64 0) [.int .i64 1, .int .i64 2, .int .i64 2, .int .i64 3] (by kernel_rfl) (intsZ_ok [1, 2, 2, 3]) rfl (by omega) (by simp) (by simp) ?_
      intro g23 u23 l23 e23
      refine G.call0 _ _ (by kernel_rfl) Tryz.call25 (letter0 (p := [97]) (i := T5.length) (by omega) (by simp)) ?_
      rintro v22 u22 l22 rfl
      have le23 := (((le5).trans l21).trans l23).trans l22
      have lq23 := l23.trans l22
      have e23p := e23.listP.mono l22
      obtain ⟨n24, hsrc24, hL24⟩ := hbag21
      obtain ⟨rfl, hg24⟩ := Src.split hsrc24
      refine G.callA _ _ (by kernel_rfl) (by kernel_rfl) Tryz.call26 rfl (Src.apart hg24) (srcPick0 (L := [1, 2, 2, 3]) (h.mono le23) hk5 e23p (by simp) (by simp)) ?_
      rintro v24 u24 m24 l24 ⟨kd, hkd, k24, rfl, hk24, rfl⟩ _
      obtain ⟨kn, rfl, hkn1, hkn3⟩ := kinds4 hkd
      have hbag24 : Bag (n24.or (s.M k24)) [s.arr k24, iArr a21 c21 (l5 ++ [T5.length]), aArr ta5 tc5 T5, rArr ra rc R] := ⟨n24, Src.at hg24, hL24⟩
      refine G.buildU 61 2 24 (.agg #[.string (mkS []), .int .i64 0]) [.agg #[.string (mkS (nmA T5.length)), .int .i64 (kn : Int)]] (by kernel_rfl) (attV_ok (nmA T5.length, kn)) rfl (by omega) (by simp) (by simp) ?_
      intro g25 u25 l25 e25
      obtain ⟨mm25, hx25, hput25⟩ := hbag24.focus 2 rfl
      rw [aArr_at] at hx25
      refine G.append 61 2 24 (.agg #[.string (mkS []), .int .i64 0]) mm25 (T5.map attV) [.agg #[.string (mkS (nmA T5.length)), .int .i64 (kn : Int)]] (.slice ta5 T5.length tc5) g25 0 1 1 (by kernel_rfl) rfl rfl (by omega) hx25 e25 (attV_ok (nmA T5.length, kn)) rfl (by omega) (by simp [intsV]; omega) (by simp [intsV]; omega) ?_
      intro w25 mn25 hy25
      rw [show T5.map attV ++ [.agg #[.string (mkS (nmA T5.length)), .int .i64 (kn : Int)]] = (T5 ++ [(nmA T5.length, kn)]).map attV by rw [List.map_append]; rfl] at hy25
      obtain ⟨a25, c25, rfl⟩ := hy25.shape
      rw [List.length_map] at hy25 ⊢
      have hbag25 := hput25 (aArr a25 c25 (T5 ++ [(nmA T5.length, kn)])) mn25 hy25
      simp only [List.set_cons_succ, List.set_cons_zero] at hbag25
      refine G.sub z 1 (z - 1) (by kernel_rfl) (by omega) (by omega) (by omega) ?_
      exact G.back (by kernel_rfl) (hJ2 (z - 1, k24, l5 ++ [T5.length], (a21, c21), T5 ++ [(nmA T5.length, kn)], (a25, c25)) _ _ _ ⟨by kernel_rfl, by kernel_rfl, by kernel_rfl⟩ ((((l5'.trans l21).trans lq23).trans l24).trans l25) ⟨hk24, fun e => by simp at e, by dsimp only; omega, by dsimp only; omega, by dsimp only; rw [List.length_append]; omega, hT5.snoc hkn1 hkn3 (by omega), by dsimp only; rw [List.length_append]; exact hl5.snoc, fun a h1 h2 => by
       dsimp only at h2 ⊢
       rw [List.length_append, List.length_singleton] at h2
       rcases Nat.lt_or_ge a T5.length with e | e
       ·exact List.mem_append_left _ (hall5 a h1 e)
       ·exact List.mem_append_right _ (List.mem_singleton.2 (by omega)), hbag25⟩ (by dsimp only; omega))
    ·refine G.lssF (T5.length : Int) (most : Int) (by kernel_rfl) (by omega) ?_
     by_cases hemp : l5 = []
     ·have hdummy := hemp
      subst hemp
      refine G.eqlT (([] : List Nat).length : Int) 0 (by kernel_rfl) (by simp) ?_
      refine G.buildU 3 1 8 (.int .i64 0) [.int .i64 ((0 : Nat) : Int)] (by kernel_rfl) (intsV_ok [0]) rfl (by omega) (by simp) (by simp) ?_
      intro g26 u26 l26 e26
      have hl26 : ListP u26 (.slice (some ⟨g26, 0, none⟩) 1 1) 1 (intsV [0]) := e26.listP
      have hbag26 := bag_off hbag5
      refine G.call0 _ _ (by kernel_rfl) Tryz.call25 (letter0 (p := [114]) (i := R.length) (by omega) (by simp)) ?_
      rintro v27 u27 l27 rfl
      refine G.buildU 74 2 40 (.agg #[.string (mkS []), .slice none 0 0]) [.agg #[.string (mkS (nmR R.length)), .slice (some ⟨g26, 0, none⟩) 1 1]] (by kernel_rfl) (relV_ok (nmR R.length, [0], ((some (⟨g26, 0, none⟩ : Addr)), 1))) rfl (by omega) (by simp) (by simp) ?_
      intro g28 u28 l28 e28
      obtain ⟨mm28, hx28, hput28⟩ := hbag26.focus 2 rfl
      rw [rArr_at] at hx28
      refine G.append 74 2 40 (.agg #[.string (mkS []), .slice none 0 0]) mm28 (R.map relV) [.agg #[.string (mkS (nmR R.length)), .slice (some ⟨g26, 0, none⟩) 1 1]] (.slice ra R.length rc) g28 0 1 1 (by kernel_rfl) rfl rfl (by omega) hx28 e28 (relV_ok (nmR R.length, [0], ((some (⟨g26, 0, none⟩ : Addr)), 1))) rfl (by omega) (by simp [intsV]; omega) (by simp [intsV]; omega) ?_
      intro w28 mn28 hy28
      rw [show R.map relV ++ [.agg #[.string (mkS (nmR R.length)), .slice (some ⟨g26, 0, none⟩) 1 1]] = (R ++ [(nmR R.length, [0], ((some (⟨g26, 0, none⟩ : Addr)), 1))]).map relV by rw [List.map_append]; rfl] at hy28
      obtain ⟨a28, c28, rfl⟩ := hy28.shape
      rw [List.length_map] at hy28 ⊢
      have hbag28 := hput28 (rArr a28 c28 (R ++ [(nmR R.length, [0], ((some (⟨g26, 0, none⟩ : Addr)), 1))])) mn28 hy28
      simp only [List.set_cons_succ, List.set_cons_zero] at hbag28
      refine G.add (R.length : Int) 1 ((R.length + 1 : Nat) : Int) (by kernel_rfl) (by omega) (by omega) (by omega) ?_
      have hR28 : ROK u28 T5.length (R ++ [(nmR R.length, [0], ((some (⟨g26, 0, none⟩ : Addr)), 1))]) := by
       refine (hR.mono (lo5 |>.trans l26 |>.trans l27 |>.trans l28)).snoc hTle5 (LOK.zero (by omega)) (by simp) (fun a h1 h2 => ?_) (hl26.mono (l27.trans l28))
       exact absurd (hall5 a h1 h2) (by simp)
      exact G.back (by kernel_rfl) (hJ (R.length + 1, k5, T5, (ta5, tc5), R ++ [(nmR R.length, [0], ((some (⟨g26, 0, none⟩ : Addr)), 1))], (a28, c28)) _ _ _ ⟨by kernel_rfl, by kernel_rfl, by kernel_rfl⟩ (l2.trans (lo5 |>.trans l26 |>.trans l27 |>.trans l28)) ⟨by dsimp only; omega, hk5, hT5, hR28, by simp, fun _ => by dsimp only; omega, hbag28⟩ (by dsimp only; omega))
     ·have hpos : 0 < T5.length := by omega
      have hl0 : 0 < l5.length := List.length_pos_iff.2 hemp
      refine G.eqlF (l5.length : Int) 0 (by kernel_rfl) (by omega) ?_
      obtain ⟨mL, hxl, hrest⟩ := hbag5.take 1 rfl
      have hbag26 : Bag mL [s.arr k5, aArr ta5 tc5 T5, rArr ra rc R] := hrest
      rw [iArr_at] at hxl
      refine G.give mL (intsV l5) (.slice la5 l5.length lc5) (by kernel_rfl) hxl (fun g => ?_) ?_
      ·obtain ⟨n26, hs26, _⟩ := hbag26
       obtain ⟨rfl, _⟩ := Src.split hs26
       exact s.h0or k k5 n26 g
      intro u26 l26 hl26
      refine G.call0 _ _ (by kernel_rfl) Tryz.call25 (letter0 (p := [114]) (i := R.length) (by omega) (by simp)) ?_
      rintro v27 u27 l27 rfl
      refine G.buildU 74 2 40 (.agg #[.string (mkS []), .slice none 0 0]) [.agg #[.string (mkS (nmR R.length)), .slice la5 l5.length lc5]] (by kernel_rfl) (relV_ok (nmR R.length, l5, (la5, lc5))) rfl (by omega) (by simp) (by simp) ?_
      intro g28 u28 l28 e28
      obtain ⟨mm28, hx28, hput28⟩ := hbag26.focus 2 rfl
      rw [rArr_at] at hx28
      refine G.append 74 2 40 (.agg #[.string (mkS []), .slice none 0 0]) mm28 (R.map relV) [.agg #[.string (mkS (nmR R.length)), .slice la5 l5.length lc5]] (.slice ra R.length rc) g28 0 1 1 (by kernel_rfl) rfl rfl (by omega) hx28 e28 (relV_ok (nmR R.length, l5, (la5, lc5))) rfl (by omega) (by simp [intsV]; omega) (by simp [intsV]; omega) ?_
      intro w28 mn28 hy28
      rw [show R.map relV ++ [.agg #[.string (mkS (nmR R.length)), .slice la5 l5.length lc5]] = (R ++ [(nmR R.length, l5, (la5, lc5))]).map relV by rw [List.map_append]; rfl] at hy28
      obtain ⟨a28, c28, rfl⟩ := hy28.shape
      rw [List.length_map] at hy28 ⊢
      have hbag28 := hput28 (rArr a28 c28 (R ++ [(nmR R.length, l5, (la5, lc5))])) mn28 hy28
      simp only [List.set_cons_succ, List.set_cons_zero] at hbag28
      refine G.add (R.length : Int) 1 ((R.length + 1 : Nat) : Int) (by kernel_rfl) (by omega) (by omega) (by omega) ?_
      have hR28 : ROK u28 T5.length (R ++ [(nmR R.length, l5, (la5, lc5))]) := by
       exact (hR.mono (lo5 |>.trans l26 |>.trans l27 |>.trans l28)).snoc hTle5 hl5 hemp hall5 (hl26.mono (l27.trans l28))
      exact G.back (by kernel_rfl) (hJ (R.length + 1, k5, T5, (ta5, tc5), R ++ [(nmR R.length, l5, (la5, lc5))], (a28, c28)) _ _ _ ⟨by kernel_rfl, by kernel_rfl, by kernel_rfl⟩ (l2.trans (lo5 |>.trans l26 |>.trans l27 |>.trans l28)) ⟨by dsimp only; omega, hk5, hT5, hR28, by simp, fun _ => by dsimp only; omega, hbag28⟩ (by dsimp only; omega))
   ·refine G.gtrF z 0 (by kernel_rfl) (by omega) ?_
    by_cases hemp : l5 = []
    ·have hz' := hz0 hemp
     have hle0 : l5.length = 0 := by rw [hemp]; rfl
     refine G.eqlT (l5.length : Int) 0 (by kernel_rfl) (by omega) ?_
     by_cases hlen : T5.length < most
     ·refine G.lssT (T5.length : Int) (most : Int) (by kernel_rfl) (by omega) ?_
      refine G.buildU 3 1 8 (.int .i64 0) [.int .i64 (T5.length : Int)] (by kernel_rfl) (intsV_ok [T5.length]) rfl (by omega) (by simp) (by simp) ?_
      intro g21 u21 l21 e21
      obtain ⟨mm21, hx21, hput21⟩ := hbag5.focus 1 rfl
      rw [iArr_at] at hx21
      refine G.append 3 1 8 (.int .i64 0) mm21 (intsV l5) [.int .i64 (T5.length : Int)] (.slice la5 l5.length lc5) g21 0 1 1 (by kernel_rfl) rfl rfl (by omega) hx21 e21 (intsV_ok [T5.length]) rfl (by omega) (by simp [intsV]; omega) (by simp [intsV]; omega) ?_
      intro w21 mn21 hy21
      rw [intsV_snoc] at hy21
      obtain ⟨a21, c21, rfl⟩ := hy21.shape
      rw [intsV_length] at hy21 ⊢
      have hbag21 := hput21 (iArr a21 c21 (l5 ++ [T5.length])) mn21 hy21
      simp only [List.set_cons_succ, List.set_cons_zero] at hbag21
      refine G.both [0, 1, 2, 3, 4, 6] 5 7 [8, 9, 10, 11, 12, 13] (by kernel_rfl) ?_ ?_
      ·refine G.call0 _ _ (by kernel_rfl) Tryz.call25 (letter0 (p := [97]) (i := T5.length) (by omega) (by simp)) ?_
       rintro v22 u22 l22 rfl
       refine G.buildU 3 1 8 (.int .i64 0) [.int .i64 1, .int .i64 2, .int .i64 2, .int .i64 3] (by kernel_rfl) (intsZ_ok [1, 2, 2, 3]) rfl (by omega) (by simp) (by simp) ?_
       intro g23 u23 l23 e23
       have le23 := (((le5).trans l21).trans l22).trans l23
       have lq23 := l22.trans l23
       have e23p := e23.listP
       obtain ⟨n24, hsrc24, hL24⟩ := hbag21
       obtain ⟨rfl, hg24⟩ := Src.split hsrc24
       refine G.callA _ _ (by kernel_rfl) (by kernel_rfl) Tryz.call26 rfl (Src.apart hg24) (srcPick0 (L := [1, 2, 2, 3]) (h.mono le23) hk5 e23p (by simp) (by simp)) ?_
       rintro v24 u24 m24 l24 ⟨kd, hkd, k24, rfl, hk24, rfl⟩ _
       obtain ⟨kn, rfl, hkn1, hkn3⟩ := kinds4 hkd
       have hbag24 : Bag (n24.or (s.M k24)) [s.arr k24, iArr a21 c21 (l5 ++ [T5.length]), aArr ta5 tc5 T5, rArr ra rc R] := ⟨n24, Src.at hg24, hL24⟩
       refine G.buildU 61 2 24 (.agg #[.string (mkS []), .int .i64 0]) [.agg #[.string (mkS (nmA T5.length)), .int .i64 (kn : Int)]] (by kernel_rfl) (attV_ok (nmA T5.length, kn)) rfl (by omega) (by simp) (by simp) ?_
       intro g25 u25 l25 e25
       obtain ⟨mm25, hx25, hput25⟩ := hbag24.focus 2 rfl
       rw [aArr_at] at hx25
       refine G.append 61 2 24 (.agg #[.string (mkS []), .int .i64 0]) mm25 (T5.map attV) [.agg #[.string (mkS (nmA T5.length)), .int .i64 (kn : Int)]] (.slice ta5 T5.length tc5) g25 0 1 1 (by kernel_rfl) rfl rfl (by omega) hx25 e25 (attV_ok (nmA T5.length, kn)) rfl (by omega) (by simp [intsV]; omega) (by simp [intsV]; omega) ?_
       intro w25 mn25 hy25
       rw [show T5.map attV ++ [.agg #[.string (mkS (nmA T5.length)), .int .i64 (kn : Int)]] = (T5 ++ [(nmA T5.length, kn)]).map attV by rw [List.map_append]; rfl] at hy25
       obtain ⟨a25, c25, rfl⟩ := hy25.shape
       rw [List.length_map] at hy25 ⊢
       have hbag25 := hput25 (aArr a25 c25 (T5 ++ [(nmA T5.length, kn)])) mn25 hy25
       simp only [List.set_cons_succ, List.set_cons_zero] at hbag25
       refine G.sub z 1 (z - 1) (by kernel_rfl) (by omega) (by omega) (by omega) ?_
       exact G.back (by kernel_rfl) (hJ2 (z - 1, k24, l5 ++ [T5.length], (a21, c21), T5 ++ [(nmA T5.length, kn)], (a25, c25)) _ _ _ ⟨by kernel_rfl, by kernel_rfl, by kernel_rfl⟩ ((((l5'.trans l21).trans lq23).trans l24).trans l25) ⟨hk24, fun e => by simp at e, by dsimp only; omega, by dsimp only; omega, by dsimp only; rw [List.length_append]; omega, hT5.snoc hkn1 hkn3 (by omega), by dsimp only; rw [List.length_append]; exact hl5.snoc, fun a h1 h2 => by
        dsimp only at h2 ⊢
        rw [List.length_append, List.length_singleton] at h2
        rcases Nat.lt_or_ge a T5.length with e | e
        ·exact List.mem_append_left _ (hall5 a h1 e)
        ·exact List.mem_append_right _ (List.mem_singleton.2 (by omega)), hbag25⟩ (by dsimp only; omega))
      ·refine G.buildU 3 1 8 (.int .i64 0) [.int .i64 1, .int .i64 2, .int .i64 2, .int .i64 3] (by kernel_rfl) (intsZ_ok [1, 2, 2, 3]) rfl (by omega) (by simp) (by simp) ?_
       intro g23 u23 l23 e23
       refine G.call0 _ _ (by kernel_rfl) Tryz.call25 (letter0 (p := [97]) (i := T5.length) (by omega) (by simp)) ?_
       rintro v22 u22 l22 rfl
       have le23 := (((le5).trans l21).trans l23).trans l22
       have lq23 := l23.trans l22
       have e23p := e23.listP.mono l22
       obtain ⟨n24, hsrc24, hL24⟩ := hbag21
       obtain ⟨rfl, hg24⟩ := Src.split hsrc24
       refine G.callA _ _ (by kernel_rfl) (by kernel_rfl) Tryz.call26 rfl (Src.apart hg24) (srcPick0 (L := [1, 2, 2, 3]) (h.mono le23) hk5 e23p (by simp) (by simp)) ?_
       rintro v24 u24 m24 l24 ⟨kd, hkd, k24, rfl, hk24, rfl⟩ _
       obtain ⟨kn, rfl, hkn1, hkn3⟩ := kinds4 hkd
       have hbag24 : Bag (n24.or (s.M k24)) [s.arr k24, iArr a21 c21 (l5 ++ [T5.length]), aArr ta5 tc5 T5, rArr ra rc R] := ⟨n24, Src.at hg24, hL24⟩
       refine G.buildU 61 2 24 (.agg #[.string (mkS []), .int .i64 0]) [.agg #[.string (mkS (nmA T5.length)), .int .i64 (kn : Int)]] (by kernel_rfl) (attV_ok (nmA T5.length, kn)) rfl (by omega) (by simp) (by simp) ?_
       intro g25 u25 l25 e25
       obtain ⟨mm25, hx25, hput25⟩ := hbag24.focus 2 rfl
       rw [aArr_at] at hx25
       refine G.append 61 2 24 (.agg #[.string (mkS []), .int .i64 0]) mm25 (T5.map attV) [.agg #[.string (mkS (nmA T5.length)), .int .i64 (kn : Int)]] (.slice ta5 T5.length tc5) g25 0 1 1 (by kernel_rfl) rfl rfl (by omega) hx25 e25 (attV_ok (nmA T5.length, kn)) rfl (by omega) (by simp [intsV]; omega) (by simp [intsV]; omega) ?_
       intro w25 mn25 hy25
       rw [show T5.map attV ++ [.agg #[.string (mkS (nmA T5.length)), .int .i64 (kn : Int)]] = (T5 ++ [(nmA T5.length, kn)]).map attV by rw [List.map_append]; rfl] at hy25
       obtain ⟨a25, c25, rfl⟩ := hy25.shape
       rw [List.length_map] at hy25 ⊢
       have hbag25 := hput25 (aArr a25 c25 (T5 ++ [(nmA T5.length, kn)])) mn25 hy25
       simp only [List.set_cons_succ, List.set_cons_zero] at hbag25
       refine G.sub z 1 (z - 1) (by kernel_rfl) (by omega) (by omega) (by omega) ?_
       exact G.back (by kernel_rfl) (hJ2 (z - 1, k24, l5 ++ [T5.length], (a21, c21), T5 ++ [(nmA T5.length, kn)], (a25, c25)) _ _ _ ⟨by kernel_rfl, by kernel_rfl, by kernel_rfl⟩ ((((l5'.trans l21).trans lq23).trans l24).trans l25) ⟨hk24, fun e => by simp at e, by dsimp only; omega, by dsimp only; omega, by dsimp only; rw [List.length_append]; omega, hT5.snoc hkn1 hkn3 (by omega), by dsimp only; rw [List.length_append]; exact hl5.snoc, fun a h1 h2 => by
        dsimp only at h2 ⊢
        rw [List.length_append, List.length_singleton] at h2
        rcases Nat.lt_or_ge a T5.length with e | e
        ·exact List.mem_append_left _ (hall5 a h1 e)
        ·exact List.mem_append_right _ (List.mem_singleton.2 (by omega)), hbag25⟩ (by dsimp only; omega))
     ·refine G.lssF (T5.length : Int) (most : Int) (by kernel_rfl) (by omega) ?_
      subst hemp
      refine G.eqlT (([] : List Nat).length : Int) 0 (by kernel_rfl) (by simp) ?_
      refine G.buildU 3 1 8 (.int .i64 0) [.int .i64 ((0 : Nat) : Int)] (by kernel_rfl) (intsV_ok [0]) rfl (by omega) (by simp) (by simp) ?_
      intro g26 u26 l26 e26
      have hl26 : ListP u26 (.slice (some ⟨g26, 0, none⟩) 1 1) 1 (intsV [0]) := e26.listP
      have hbag26 := bag_off hbag5
      refine G.call0 _ _ (by kernel_rfl) Tryz.call25 (letter0 (p := [114]) (i := R.length) (by omega) (by simp)) ?_
      rintro v27 u27 l27 rfl
      refine G.buildU 74 2 40 (.agg #[.string (mkS []), .slice none 0 0]) [.agg #[.string (mkS (nmR R.length)), .slice (some ⟨g26, 0, none⟩) 1 1]] (by kernel_rfl) (relV_ok (nmR R.length, [0], ((some (⟨g26, 0, none⟩ : Addr)), 1))) rfl (by omega) (by simp) (by simp) ?_
      intro g28 u28 l28 e28
      obtain ⟨mm28, hx28, hput28⟩ := hbag26.focus 2 rfl
      rw [rArr_at] at hx28
      refine G.append 74 2 40 (.agg #[.string (mkS []), .slice none 0 0]) mm28 (R.map relV) [.agg #[.string (mkS (nmR R.length)), .slice (some ⟨g26, 0, none⟩) 1 1]] (.slice ra R.length rc) g28 0 1 1 (by kernel_rfl) rfl rfl (by omega) hx28 e28 (relV_ok (nmR R.length, [0], ((some (⟨g26, 0, none⟩ : Addr)), 1))) rfl (by omega) (by simp [intsV]; omega) (by simp [intsV]; omega) ?_
      intro w28 mn28 hy28
      rw [show R.map relV ++ [.agg #[.string (mkS (nmR R.length)), .slice (some ⟨g26, 0, none⟩) 1 1]] = (R ++ [(nmR R.length, [0], ((some (⟨g26, 0, none⟩ : Addr)), 1))]).map relV by rw [List.map_append]; rfl] at hy28
      obtain ⟨a28, c28, rfl⟩ := hy28.shape
      rw [List.length_map] at hy28 ⊢
      have hbag28 := hput28 (rArr a28 c28 (R ++ [(nmR R.length, [0], ((some (⟨g26, 0, none⟩ : Addr)), 1))])) mn28 hy28
      simp only [List.set_cons_succ, List.set_cons_zero] at hbag28
      refine G.add (R.length : Int) 1 ((R.length + 1 : Nat) : Int) (by kernel_rfl) (by omega) (by omega) (by omega) ?_
      have hR28 : ROK u28 T5.length (R ++ [(nmR R.length, [0], ((some (⟨g26, 0, none⟩ : Addr)), 1))]) := by
       refine (hR.mono (lo5 |>.trans l26 |>.trans l27 |>.trans l28)).snoc hTle5 (LOK.zero (by omega)) (by simp) (fun a h1 h2 => ?_) (hl26.mono (l27.trans l28))
       exact absurd (hall5 a h1 h2) (by simp)
      exact G.back (by kernel_rfl) (hJ (R.length + 1, k5, T5, (ta5, tc5), R ++ [(nmR R.length, [0], ((some (⟨g26, 0, none⟩ : Addr)), 1))], (a28, c28)) _ _ _ ⟨by kernel_rfl, by kernel_rfl, by kernel_rfl⟩ (l2.trans (lo5 |>.trans l26 |>.trans l27 |>.trans l28)) ⟨by dsimp only; omega, hk5, hT5, hR28, by simp, fun _ => by dsimp only; omega, hbag28⟩ (by dsimp only; omega))
    ·have hle0 : 0 < l5.length := List.length_pos_iff.2 hemp
     refine G.eqlF (l5.length : Int) 0 (by kernel_rfl) (by omega) ?_
     have hpos : 0 < T5.length := by
      obtain ⟨x, hx⟩ := List.exists_mem_of_ne_nil _ hemp
      have := hl5.lt x hx
      omega
     have hl0 : 0 < l5.length := List.length_pos_iff.2 hemp
     refine G.eqlF (l5.length : Int) 0 (by kernel_rfl) (by omega) ?_
     obtain ⟨mL, hxl, hrest⟩ := hbag5.take 1 rfl
     have hbag26 : Bag mL [s.arr k5, aArr ta5 tc5 T5, rArr ra rc R] := hrest
     rw [iArr_at] at hxl
     refine G.give mL (intsV l5) (.slice la5 l5.length lc5) (by kernel_rfl) hxl (fun g => ?_) ?_
     ·obtain ⟨n26, hs26, _⟩ := hbag26
      obtain ⟨rfl, _⟩ := Src.split hs26
      exact s.h0or k k5 n26 g
     intro u26 l26 hl26
     refine G.call0 _ _ (by kernel_rfl) Tryz.call25 (letter0 (p := [114]) (i := R.length) (by omega) (by simp)) ?_
     rintro v27 u27 l27 rfl
     refine G.buildU 74 2 40 (.agg #[.string (mkS []), .slice none 0 0]) [.agg #[.string (mkS (nmR R.length)), .slice la5 l5.length lc5]] (by kernel_rfl) (relV_ok (nmR R.length, l5, (la5, lc5))) rfl (by omega) (by simp) (by simp) ?_
     intro g28 u28 l28 e28
     obtain ⟨mm28, hx28, hput28⟩ := hbag26.focus 2 rfl
     rw [rArr_at] at hx28
     refine G.append 74 2 40 (.agg #[.string (mkS []), .slice none 0 0]) mm28 (R.map relV) [.agg #[.string (mkS (nmR R.length)), .slice la5 l5.length lc5]] (.slice ra R.length rc) g28 0 1 1 (by kernel_rfl) rfl rfl (by omega) hx28 e28 (relV_ok (nmR R.length, l5, (la5, lc5))) rfl (by omega) (by simp [intsV]; omega) (by simp [intsV]; omega) ?_
     intro w28 mn28 hy28
     rw [show R.map relV ++ [.agg #[.string (mkS (nmR R.length)), .slice la5 l5.length lc5]] = (R ++ [(nmR R.length, l5, (la5, lc5))]).map relV by rw [List.map_append]; rfl] at hy28
     obtain ⟨a28, c28, rfl⟩ := hy28.shape
     rw [List.length_map] at hy28 ⊢
     have hbag28 := hput28 (rArr a28 c28 (R ++ [(nmR R.length, l5, (la5, lc5))])) mn28 hy28
     simp only [List.set_cons_succ, List.set_cons_zero] at hbag28
     refine G.add (R.length : Int) 1 ((R.length + 1 : Nat) : Int) (by kernel_rfl) (by omega) (by omega) (by omega) ?_
     have hR28 : ROK u28 T5.length (R ++ [(nmR R.length, l5, (la5, lc5))]) := by
      exact (hR.mono (lo5 |>.trans l26 |>.trans l27 |>.trans l28)).snoc hTle5 hl5 hemp hall5 (hl26.mono (l27.trans l28))
     exact G.back (by kernel_rfl) (hJ (R.length + 1, k5, T5, (ta5, tc5), R ++ [(nmR R.length, l5, (la5, lc5))], (a28, c28)) _ _ _ ⟨by kernel_rfl, by kernel_rfl, by kernel_rfl⟩ (l2.trans (lo5 |>.trans l26 |>.trans l27 |>.trans l28)) ⟨by dsimp only; omega, hk5, hT5, hR28, by simp, fun _ => by dsimp only; omega, hbag28⟩ (by dsimp only; omega))
 obtain rfl : R.length = n := by omega
 refine G.lssF (R.length : Int) (R.length : Int) (by kernel_rfl) (by omega) ?_
 have hTpos := h0 (by omega)
 obtain ⟨n0, hsrc, hL⟩ := hbag
 obtain ⟨rfl, hg0⟩ := Src.split hsrc
 refine G.giveP (ma := n0) (sm := s.M k2) (by kernel_rfl) rfl (Src.apart hg0) (s.h0 k k2) ?_
 intro u3 l3 hm3
 have hAL : ListP u3 (.slice ta T.length tc) 2 (T.map attV) := hL.list hm3 0 rfl
 have hRL : ListP u3 (.slice ra R.length rc) 2 (R.map relV) := hL.list hm3 1 rfl
 refine G.loop (ι := Nat × Nat × List Feat × (Option Addr × Nat) × Int) (fun i => [(0, .v s.ptr), (4, .p 0 0), (5, .p 1001 0), (86, .v (.slice ta T.length tc)), (87, .v (.int .i64 (T.length : Int))), (88, .v (.int .i64 (i.1 : Int)))])
  (fun i => [(0, ⟨30, [.v (.slice none 0 0), .v (.slice none 0 0), .v (.slice none 0 0), .v (.int .i64 0)]⟩), (1001, ⟨30, [.v (.slice ta T.length tc), .v (.slice ra R.length rc), .v (.slice i.2.2.2.1.1 i.2.2.1.length i.2.2.2.1.2), .v (.int .i64 i.2.2.2.2)]⟩)])
  (fun i u' m' => i.1 ≤ T.length ∧ i.2.1 ≤ s.n ∧ FOK T i.2.2.1 i.2.2.2.2 i.1 ∧ Bag m' [s.arr i.2.1, fArr i.2.2.2.1.1 i.2.2.2.1.2 i.2.2.1])
  (fun i => T.length - i.1) (0, k2, [], (none, 0), -1) (by kernel_rfl) (fun _ => by kernel_rfl) ⟨by kernel_rfl, by kernel_rfl, by kernel_rfl⟩
  ⟨Nat.zero_le _, hk2, FOK.nil, s.bag0 k2 ⟨PH.mt, ArrAt.nil _ _ _, trivial⟩⟩ ?_
 rintro J1 ⟨a, k3, F, ⟨fa, fc⟩, lab⟩ hJ1 u4 m4 l4 ⟨ha, hk3, hF, hbag4⟩
 simp only at ha hk3 hF hbag4 hJ1
 have le4 := (le2.trans l3).trans l4
 have hFl := hF.len
 by_cases hlt2 : a < T.length
 ·refine G.lssT (a : Int) (T.length : Int) (by kernel_rfl) (by omega) ?_
  have hTa : T[a]? = some T[a] := List.getElem?_eq_getElem hlt2
  have hkd := hT.kd _ (List.getElem_mem hlt2)
  obtain ⟨ba, oa, rfl, ea⟩ := ListP.at' (hAL.mono l4) (j := a) (e := attV T[a]) (by simp [hTa])
  generalize T[a] = x at hTa hkd ea
  obtain ⟨nm, kd⟩ := x
  simp only at hkd
  refine G.addr ba oa T.length tc a 2 (by kernel_rfl) hlt2 ?_
  refine G.loadU (some 2) ba (oa + a * 2) (.agg #[.string (mkS nm), .int .i64 (kd : Int)]) (by kernel_rfl) (by kernel_rfl) ea ?_
  by_cases hk2' : kd = 2
  ·subst hk2'
   refine G.eqlT ((2 : Nat) : Int) 2 (by kernel_rfl) (by omega) ?_
   by_cases hlab : lab < 0
   ·refine G.lssT lab 0 (by kernel_rfl) (by omega) ?_
    obtain ⟨n5, hsrc5, hL5⟩ := hbag4
    obtain ⟨rfl, hg5⟩ := Src.split hsrc5
    refine G.callA _ _ (by kernel_rfl) (by kernel_rfl) Tryz.call24 rfl (Src.apart hg5) (srcN0 (n := 2) (h.mono le4) hk3 (by omega) (by omega)) ?_
    rintro v5 u5 m5 l5 ⟨r5, k5, rfl, hr5, hk5, rfl⟩ _
    have hbag5 : Bag _ [s.arr k5, fArr fa fc F] := ⟨_, Src.at hg5, hL5⟩
    by_cases hr0 : r5 = 0
    ·refine G.eqlT (r5 : Int) 0 (by kernel_rfl) (by omega) ?_
     refine G.add (a : Int) 1 ((a + 1 : Nat) : Int) (by kernel_rfl) (by omega) (by omega) (by omega) ?_
     exact G.back (by kernel_rfl) (hJ1 (a + 1, k5, F, (fa, fc), (a : Int)) _ _ _ ⟨by kernel_rfl, by kernel_rfl, by kernel_rfl⟩ (l4.trans l5) ⟨by dsimp only; omega, hk5, hF.lab hTa, hbag5⟩ (by dsimp only; omega))
    ·refine G.eqlF (r5 : Int) 0 (by kernel_rfl) (by omega) ?_
     refine G.eqlT ((2 : Nat) : Int) 2 (by kernel_rfl) (by omega) ?_
     have hg11 := hg5
     have hL11 := hL5
     refine G.callA _ _ (by kernel_rfl) (by kernel_rfl) Tryz.call24 rfl (Src.apart hg11) (srcN0 (n := 4) (h.mono (le4.trans l5)) hk5 (by omega) (by omega)) ?_
     rintro v11 u11 m11 l11 ⟨r11, k11, rfl, hr11, hk11, rfl⟩ _
     have hbag11 : Bag _ [s.arr k11, fArr fa fc F] := ⟨_, Src.at hg11, hL11⟩
     by_cases hr1 : 0 < r11
     ·refine G.gtrT (r11 : Int) 0 (by kernel_rfl) (by omega) ?_
      have hg12 := hg11
      have hL12 := hL11
      refine G.callA _ _ (by kernel_rfl) (by kernel_rfl) Tryz.call24 rfl (Src.apart hg12) (srcN0 (n := 2) (h.mono ((le4.trans l5).trans l11)) hk11 (by omega) (by omega)) ?_
      rintro v12 u12 m12 l12 ⟨r12, k12, rfl, hr12, hk12, rfl⟩ _
      have hbag12 : Bag _ [s.arr k12, fArr fa fc F] := ⟨_, Src.at hg12, hL12⟩
      refine G.buildU 64 3 24 (.agg #[.int .i64 0, .int .i64 0, .int .i64 0]) [.agg #[.int .i64 (a : Int), .int .i64 ((1 : Nat) : Int), .int .i64 (r12 : Int)]] (by kernel_rfl) (featV_ok (a, 1, r12)) rfl (by omega) (by simp) (by simp) ?_
      intro g13 u13 l13 e13
      obtain ⟨mm13, hx13, hput13⟩ := hbag12.focus 1 rfl
      rw [fArr_at] at hx13
      refine G.append 64 3 24 (.agg #[.int .i64 0, .int .i64 0, .int .i64 0]) mm13 (F.map featV) [.agg #[.int .i64 (a : Int), .int .i64 ((1 : Nat) : Int), .int .i64 (r12 : Int)]] (.slice fa F.length fc) g13 0 1 1 (by kernel_rfl) rfl rfl (by omega) hx13 e13 (featV_ok (a, 1, r12)) rfl (by omega) (by simp [intsV]; omega) (by simp [intsV]; omega) ?_
      intro w13 mn13 hy13
      rw [show F.map featV ++ [.agg #[.int .i64 (a : Int), .int .i64 ((1 : Nat) : Int), .int .i64 (r12 : Int)]] = (F ++ [(a, 1, r12)]).map featV by rw [List.map_append]; rfl] at hy13
      obtain ⟨a13, c13, rfl⟩ := hy13.shape
      rw [List.length_map] at hy13 ⊢
      have hbag13 := hput13 (fArr a13 c13 (F ++ [(a, 1, r12)])) mn13 hy13
      simp only [List.set_cons_succ, List.set_cons_zero] at hbag13
      refine G.add (a : Int) 1 ((a + 1 : Nat) : Int) (by kernel_rfl) (by omega) (by omega) (by omega) ?_
      exact G.back (by kernel_rfl) (hJ1 (a + 1, k12, F ++ [(a, 1, r12)], (a13, c13), lab) _ _ _ ⟨by kernel_rfl, by kernel_rfl, by kernel_rfl⟩ ((((l4.trans l5).trans l11).trans l12).trans l13) ⟨by dsimp only; omega, hk12, hF.put hTa (.inl ⟨rfl, rfl, by omega⟩), hbag13⟩ (by dsimp only; omega))
     ·refine G.gtrF (r11 : Int) 0 (by kernel_rfl) (by omega) ?_
      refine G.eqlF ((2 : Nat) : Int) 3 (by kernel_rfl) (by omega) ?_
      refine G.add (a : Int) 1 ((a + 1 : Nat) : Int) (by kernel_rfl) (by omega) (by omega) (by omega) ?_
      exact G.back (by kernel_rfl) (hJ1 (a + 1, k11, F, (fa, fc), lab) _ _ _ ⟨by kernel_rfl, by kernel_rfl, by kernel_rfl⟩ ((l4.trans l5).trans l11) ⟨by dsimp only; omega, hk11, hF.skip, hbag11⟩ (by dsimp only; omega))
   ·refine G.lssF lab 0 (by kernel_rfl) (by omega) ?_
    refine G.eqlT ((2 : Nat) : Int) 2 (by kernel_rfl) (by omega) ?_
    obtain ⟨n11, hsrc11, hL11⟩ := hbag4
    obtain ⟨rfl, hg11⟩ := Src.split hsrc11
    refine G.callA _ _ (by kernel_rfl) (by kernel_rfl) Tryz.call24 rfl (Src.apart hg11) (srcN0 (n := 4) (h.mono le4) hk3 (by omega) (by omega)) ?_
    rintro v11 u11 m11 l11 ⟨r11, k11, rfl, hr11, hk11, rfl⟩ _
    have hbag11 : Bag _ [s.arr k11, fArr fa fc F] := ⟨_, Src.at hg11, hL11⟩
    by_cases hr1 : 0 < r11
    ·refine G.gtrT (r11 : Int) 0 (by kernel_rfl) (by omega) ?_
     have hg12 := hg11
     have hL12 := hL11
     refine G.callA _ _ (by kernel_rfl) (by kernel_rfl) Tryz.call24 rfl (Src.apart hg12) (srcN0 (n := 2) (h.mono (le4.trans l11)) hk11 (by omega) (by omega)) ?_
     rintro v12 u12 m12 l12 ⟨r12, k12, rfl, hr12, hk12, rfl⟩ _
     have hbag12 : Bag _ [s.arr k12, fArr fa fc F] := ⟨_, Src.at hg12, hL12⟩
     refine G.buildU 64 3 24 (.agg #[.int .i64 0, .int .i64 0, .int .i64 0]) [.agg #[.int .i64 (a : Int), .int .i64 ((1 : Nat) : Int), .int .i64 (r12 : Int)]] (by kernel_rfl) (featV_ok (a, 1, r12)) rfl (by omega) (by simp) (by simp) ?_
     intro g13 u13 l13 e13
     obtain ⟨mm13, hx13, hput13⟩ := hbag12.focus 1 rfl
     rw [fArr_at] at hx13
     refine G.append 64 3 24 (.agg #[.int .i64 0, .int .i64 0, .int .i64 0]) mm13 (F.map featV) [.agg #[.int .i64 (a : Int), .int .i64 ((1 : Nat) : Int), .int .i64 (r12 : Int)]] (.slice fa F.length fc) g13 0 1 1 (by kernel_rfl) rfl rfl (by omega) hx13 e13 (featV_ok (a, 1, r12)) rfl (by omega) (by simp [intsV]; omega) (by simp [intsV]; omega) ?_
     intro w13 mn13 hy13
     rw [show F.map featV ++ [.agg #[.int .i64 (a : Int), .int .i64 ((1 : Nat) : Int), .int .i64 (r12 : Int)]] = (F ++ [(a, 1, r12)]).map featV by rw [List.map_append]; rfl] at hy13
     obtain ⟨a13, c13, rfl⟩ := hy13.shape
     rw [List.length_map] at hy13 ⊢
     have hbag13 := hput13 (fArr a13 c13 (F ++ [(a, 1, r12)])) mn13 hy13
     simp only [List.set_cons_succ, List.set_cons_zero] at hbag13
     refine G.add (a : Int) 1 ((a + 1 : Nat) : Int) (by kernel_rfl) (by omega) (by omega) (by omega) ?_
     exact G.back (by kernel_rfl) (hJ1 (a + 1, k12, F ++ [(a, 1, r12)], (a13, c13), lab) _ _ _ ⟨by kernel_rfl, by kernel_rfl, by kernel_rfl⟩ (((l4.trans l11).trans l12).trans l13) ⟨by dsimp only; omega, hk12, hF.put hTa (.inl ⟨rfl, rfl, by omega⟩), hbag13⟩ (by dsimp only; omega))
    ·refine G.gtrF (r11 : Int) 0 (by kernel_rfl) (by omega) ?_
     refine G.eqlF ((2 : Nat) : Int) 3 (by kernel_rfl) (by omega) ?_
     refine G.add (a : Int) 1 ((a + 1 : Nat) : Int) (by kernel_rfl) (by omega) (by omega) (by omega) ?_
     exact G.back (by kernel_rfl) (hJ1 (a + 1, k11, F, (fa, fc), lab) _ _ _ ⟨by kernel_rfl, by kernel_rfl, by kernel_rfl⟩ (l4.trans l11) ⟨by dsimp only; omega, hk11, hF.skip, hbag11⟩ (by dsimp only; omega))
  ·refine G.eqlF (kd : Int) 2 (by kernel_rfl) (by omega) ?_
   refine G.eqlF (kd : Int) 2 (by kernel_rfl) (by omega) ?_
   by_cases hk3' : kd = 3
   ·subst hk3'
    refine G.eqlT ((3 : Nat) : Int) 3 (by kernel_rfl) (by omega) ?_
    obtain ⟨n5, hsrc5, hL5⟩ := hbag4
    obtain ⟨rfl, hg5⟩ := Src.split hsrc5
    refine G.callA _ _ (by kernel_rfl) (by kernel_rfl) Tryz.call24 rfl (Src.apart hg5) (srcN0 (n := 4) (h.mono le4) hk3 (by omega) (by omega)) ?_
    rintro v5 u5 m5 l5 ⟨r5, k5, rfl, hr5, hk5, rfl⟩ _
    have hbag5 : Bag _ [s.arr k5, fArr fa fc F] := ⟨_, Src.at hg5, hL5⟩
    by_cases hr0 : 0 < r5
    ·refine G.gtrT (r5 : Int) 0 (by kernel_rfl) (by omega) ?_
     refine G.buildU 64 3 24 (.agg #[.int .i64 0, .int .i64 0, .int .i64 0]) [.agg #[.int .i64 (a : Int), .int .i64 ((2 : Nat) : Int), .int .i64 ((0 : Nat) : Int)]] (by kernel_rfl) (featV_ok (a, 2, 0)) rfl (by omega) (by simp) (by simp) ?_
     intro g6 u6 l6 e6
     obtain ⟨mm6, hx6, hput6⟩ := hbag5.focus 1 rfl
     rw [fArr_at] at hx6
     refine G.append 64 3 24 (.agg #[.int .i64 0, .int .i64 0, .int .i64 0]) mm6 (F.map featV) [.agg #[.int .i64 (a : Int), .int .i64 ((2 : Nat) : Int), .int .i64 ((0 : Nat) : Int)]] (.slice fa F.length fc) g6 0 1 1 (by kernel_rfl) rfl rfl (by omega) hx6 e6 (featV_ok (a, 2, 0)) rfl (by omega) (by simp [intsV]; omega) (by simp [intsV]; omega) ?_
     intro w6 mn6 hy6
     rw [show F.map featV ++ [.agg #[.int .i64 (a : Int), .int .i64 ((2 : Nat) : Int), .int .i64 ((0 : Nat) : Int)]] = (F ++ [(a, 2, 0)]).map featV by rw [List.map_append]; rfl] at hy6
     obtain ⟨a6, c6, rfl⟩ := hy6.shape
     rw [List.length_map] at hy6 ⊢
     have hbag6 := hput6 (fArr a6 c6 (F ++ [(a, 2, 0)])) mn6 hy6
     simp only [List.set_cons_succ, List.set_cons_zero] at hbag6
     refine G.add (a : Int) 1 ((a + 1 : Nat) : Int) (by kernel_rfl) (by omega) (by omega) (by omega) ?_
     exact G.back (by kernel_rfl) (hJ1 (a + 1, k5, F ++ [(a, 2, 0)], (a6, c6), lab) _ _ _ ⟨by kernel_rfl, by kernel_rfl, by kernel_rfl⟩ ((l4.trans l5).trans l6) ⟨by dsimp only; omega, hk5, hF.put hTa (.inr ⟨rfl, rfl, rfl⟩), hbag6⟩ (by dsimp only; omega))
    ·refine G.gtrF (r5 : Int) 0 (by kernel_rfl) (by omega) ?_
     refine G.add (a : Int) 1 ((a + 1 : Nat) : Int) (by kernel_rfl) (by omega) (by omega) (by omega) ?_
     exact G.back (by kernel_rfl) (hJ1 (a + 1, k5, F, (fa, fc), lab) _ _ _ ⟨by kernel_rfl, by kernel_rfl, by kernel_rfl⟩ (l4.trans l5) ⟨by dsimp only; omega, hk5, hF.skip, hbag5⟩ (by dsimp only; omega))
   ·refine G.eqlF (kd : Int) 3 (by kernel_rfl) (by omega) ?_
    refine G.add (a : Int) 1 ((a + 1 : Nat) : Int) (by kernel_rfl) (by omega) (by omega) (by omega) ?_
    exact G.back (by kernel_rfl) (hJ1 (a + 1, k3, F, (fa, fc), lab) _ _ _ ⟨by kernel_rfl, by kernel_rfl, by kernel_rfl⟩ l4 ⟨by dsimp only; omega, hk3, hF.skip, hbag4⟩ (by dsimp only; omega))
 obtain rfl : a = T.length := by omega
 refine G.lssF (T.length : Int) (T.length : Int) (by kernel_rfl) (by omega) ?_
 obtain ⟨n5, hsrc5, hL5⟩ := hbag4
 obtain ⟨rfl, hg5⟩ := Src.split hsrc5
 refine G.giveP (ma := n5) (sm := s.M k3) (by kernel_rfl) rfl (Src.apart hg5) (s.h0 k k3) ?_
 intro u5 l5 hm5
 have hFL : ListP u5 (.slice fa F.length fc) 3 (F.map featV) := hL5.list hm5 0 rfl
 refine G.gtrF (F.length : Int) 8 (by kernel_rfl) (by omega) ?_
 exact G.ret (.agg #[.slice ta T.length tc, .slice ra R.length rc, .slice fa F.length fc, .int .i64 lab]) (by kernel_rfl) ⟨T, R, F, lab, k3, ⟨_, _, _, _, _, _, rfl, hAL.mono (l4.trans l5), hRL.mono (l4.trans l5), hFL⟩, sch_ok hT (hR.mono ((l3.trans l4).trans l5)) hF hTpos (by omega) (by omega), hT6, hk3, rfl⟩
end Go.Proofs.YtpdboaedoimahaaGreatDoor
end
section
set_option linter.unusedSectionVars false
set_option linter.unusedVariables false
namespace Go.Proofs.YtpdboaedoimahaaGreatDoor
open Go.RowKit Go.MapKept
abbrev WRow : Type := List (List UInt8) × Nat × (Option Addr × Nat)
def wrowV (y : WRow) : Value := .agg #[.slice y.2.2.1 y.1.length y.2.2.2, .int .i64 (y.2.1 : Int)]
theorem wrowV_ok (x : WRow) : ElsOK 2 [wrowV x] := by
 intro e he
 simp at he; subst he
 exact ⟨rfl, fun y hy => by simp [wrowV, Value.cells] at hy; rcases hy with rfl | rfl <;> rfl⟩
def wArr (a : Option Addr) (c : Nat) (L : List WRow) : Arr := ⟨.slice a L.length c, 47, 2, L.map wrowV⟩
theorem wArr_at {a : Option Addr} {c : Nat} {L : List WRow} {m0 m : PH} : (wArr a c L).At m0 m = ArrAt m0 m (.slice a L.length c) 47 2 (L.map wrowV) := rfl
def WOK (u : PH) (T : List (List UInt8 × Nat)) (L : List WRow) : Prop := ∀ y ∈ L, ListP u (.slice y.2.2.1 y.1.length y.2.2.2) 1 (y.1.map nmV) ∧ TupOK T y.1 ∧ 1 ≤ y.2.1 ∧ y.2.1 ≤ 7
theorem WOK.mono {u u' : PH} {T : List (List UInt8 × Nat)} {L : List WRow} (h : WOK u T L) (hl : PH.le u u') : WOK u' T L := fun y hy => ⟨(h y hy).1.mono hl, (h y hy).2⟩
set_option maxHeartbeats 2000000 in
theorem srcTuples0 {u : PH} {s : Src} {ts : List Int} {k most : Nat} {v : Value} {T : List (List UInt8 × Nat)} {R : List SRel} {F : List Feat} {lab : Int} (h : SrcOK u s ts) (hk : k ≤ s.n) (hX : SchP u v T R F lab) (ok : SchOK u T R F lab) (hm : most ≤ 100) :
  Contract Tryz.prog 9 [s.ptr, v, .int .i64 (most : Int)] u (s.M k) fun r u' m' => ∃ (L : List WRow) (k' : Nat), ListP u' r 2 (L.map wrowV) ∧ L.length ≤ most ∧ WOK u' T L ∧ k' ≤ s.n ∧ m' = s.M k' := by
 obtain ⟨xa, xc, xb, xd, xe, xf, rfl, hTL, hRL, hFL⟩ := id hX
 have t2 := ok.t2
 refine Contract.of Tryz.func9 (by kernel_rfl) (by kernel_rfl) ?_
 refine G.add (most : Int) 1 ((most + 1 : Nat) : Int) (by kernel_rfl) (by omega) (by omega) (by omega) ?_
 refine G.callA _ _ (by kernel_rfl) (by kernel_rfl) Tryz.call24 (mt_or _).symm (apart_mt _) (srcN0 (n := most + 1) h hk (by omega) (by omega)) ?_
 rintro v1 u1 m1 l1 ⟨r, k1, rfl, hr, hk1, rfl⟩ _
 rw [mt_or]
 refine G.loop (ι := Nat × Nat × List WRow × (Option Addr × Nat)) (fun i => [(0, .v s.ptr), (4, .p 0 0), (7, .v (.slice i.2.2.2.1 i.2.2.1.length i.2.2.2.2)), (8, .v (.int .i64 (i.1 : Int)))])
  (fun _ => [(0, ⟨30, [.v (.slice xa T.length xc), .v (.slice xb R.length xd), .v (.slice xe F.length xf), .v (.int .i64 lab)]⟩)])
  (fun i u' m' => i.1 + i.2.2.1.length = r ∧ i.2.1 ≤ s.n ∧ WOK u' T i.2.2.1 ∧ Bag m' [s.arr i.2.1, wArr i.2.2.2.1 i.2.2.2.2 i.2.2.1])
  (fun i => i.1) (r, k1, [], (none, 0)) (by kernel_rfl) (fun _ => by kernel_rfl) ⟨by kernel_rfl, by kernel_rfl, by kernel_rfl⟩
  ⟨rfl, hk1, fun y hy => by simp at hy, s.bag0 k1 ⟨PH.mt, ArrAt.nil _ _ _, trivial⟩⟩ ?_
 rintro J ⟨i, k2, L, ⟨na, nc⟩⟩ hJ u2 m2 l2 ⟨hi, hk2, hW, hbag⟩
 simp only at hi hk2 hW hbag hJ
 have le2 := l1.trans l2
 obtain ⟨m0, hsrc, hL⟩ := hbag
 obtain ⟨rfl, hg0⟩ := Src.split hsrc
 by_cases hlt : 0 < i
 ·refine G.gtrT (i : Int) 0 (by kernel_rfl) (by omega) ?_
  refine G.callA _ _ (by kernel_rfl) (by kernel_rfl) Tryz.call15 rfl (Src.apart hg0) (srcTuple0 (w := .slice xb R.length xd) (x := .slice xe F.length xf) (y := .int .i64 lab) (h.mono le2) hk2 (hTL.mono le2) (by omega) ok.att.kind ⟨_, _, _, rfl⟩ ⟨_, _, _, rfl⟩ ⟨_, rfl⟩) ?_
  rintro v3 u3 m3 l3 ⟨ss, k3, hS, hSl, hSv, hk3, rfl⟩ _
  obtain ⟨ya, yc, rfl⟩ := hS.opn
  rw [List.length_map] at hS ⊢
  refine G.buildU 3 1 8 (.int .i64 0) (intsZ [1, 1, 2, 7]) (by kernel_rfl) (intsZ_ok _) rfl (by omega) (by simp [intsZ]) (by simp [intsZ]) ?_
  intro g4 u4 l4 e4
  refine G.callA _ _ (by kernel_rfl) (by kernel_rfl) Tryz.call26 rfl (Src.apart hg0) (srcPick0 (L := [1, 1, 2, 7]) (h.mono ((le2.trans l3).trans l4)) hk3 e4.listP (by simp) (by simp)) ?_
  rintro v5 u5 m5 l5 ⟨z, hz, k5, rfl, hk5, rfl⟩ _
  obtain ⟨w, rfl, hw1, hw2⟩ : ∃ w : Nat, z = (w : Int) ∧ 1 ≤ w ∧ w ≤ 7 := by
   simp at hz
   rcases hz with rfl | rfl | rfl
   ·exact ⟨1, rfl, by omega, by omega⟩
   ·exact ⟨2, rfl, by omega, by omega⟩
   ·exact ⟨7, rfl, by omega, by omega⟩
  refine G.buildU 47 2 32 (.agg #[.slice none 0 0, .int .i64 0]) [.agg #[.slice ya ss.length yc, .int .i64 (w : Int)]] (by kernel_rfl) (wrowV_ok (ss, w, ya, yc)) rfl (by omega) (by simp) (by simp) ?_
  intro g6 u6 l6 e6
  have hbag2 : Bag (m0.or (s.M k5)) [s.arr k5, wArr na nc L] := ⟨m0, Src.at hg0, hL⟩
  obtain ⟨mm, hx0, hput⟩ := hbag2.focus 1 rfl
  rw [wArr_at] at hx0
  refine G.append 47 2 32 (.agg #[.slice none 0 0, .int .i64 0]) mm (L.map wrowV) [wrowV (ss, w, ya, yc)] (.slice na L.length nc) g6 0 1 1 (by kernel_rfl) rfl rfl (by omega) hx0 e6 (wrowV_ok (ss, w, ya, yc)) rfl (by omega) (by simp; omega) (by simp; omega) ?_
  intro v7 m7 hx7
  rw [show L.map wrowV ++ [wrowV (ss, w, ya, yc)] = (L ++ [(ss, w, ya, yc)]).map wrowV by rw [List.map_append]; rfl] at hx7
  obtain ⟨a7, c7, rfl⟩ := hx7.shape
  rw [List.length_map] at hx7 ⊢
  have hbag3 := hput (wArr a7 c7 (L ++ [(ss, w, ya, yc)])) m7 hx7
  have lx := ((l3.trans l4).trans l5).trans l6
  refine G.sub (i : Int) 1 ((i - 1 : Nat) : Int) (by kernel_rfl) (by omega) (by omega) (by omega) ?_
  refine G.back (by kernel_rfl) (hJ (i - 1, k5, L ++ [(ss, w, ya, yc)], (a7, c7)) _ _ _ ⟨by kernel_rfl, by kernel_rfl, by kernel_rfl⟩ (l2.trans lx) ⟨by dsimp only; simp; omega, hk5, ?_, hbag3⟩ (by dsimp only; omega))
  intro y hy
  rcases List.mem_append.1 hy with hy | hy
  ·exact hW.mono lx y hy
  ·simp only [List.mem_singleton] at hy
   subst hy
   exact ⟨hS.mono ((l4.trans l5).trans l6), ⟨hSl, hSv⟩, hw1, hw2⟩
 ·obtain rfl : i = 0 := by omega
  refine G.gtrF ((0 : Nat) : Int) 0 (by kernel_rfl) (by omega) ?_
  refine G.giveP (ma := m0) (sm := s.M k2) (by kernel_rfl) rfl (Src.apart hg0) (s.h0 k k2) ?_
  intro u3 l3 hm3
  exact G.ret (.slice na L.length nc) (by kernel_rfl) ⟨L, k2, hL.list hm3 0 rfl, by omega, hW.mono l3, hk2, rfl⟩
end Go.Proofs.YtpdboaedoimahaaGreatDoor
end
section
set_option linter.unusedSectionVars false
set_option linter.unusedVariables false
namespace Go.Proofs.YtpdboaedoimahaaGreatDoor
open Go.RowKit Go.MapKept
set_option maxHeartbeats 1000000 in
theorem refTerms0 {u : PH} {v v' : Value} {T : List (Par × Rat)} (h : ListP u v 3 (T.map termV)) (h' : ListP u v' 3 (T.map termV)) (hl : T.length ≤ 1000000) :
  Fn0 Tryz.prog 21 [v, v'] u fun r _ => r = .bool true := by
 obtain ⟨a, c, rfl⟩ := h.opn
 obtain ⟨a', c', rfl⟩ := h'.opn
 rw [List.length_map] at h h' ⊢
 refine Fn0.of Tryz.func21 (by kernel_rfl) (by kernel_rfl) ?_
 refine G.neqF (T.length : Int) (T.length : Int) (by kernel_rfl) (by omega) ?_
 refine G.loop (ι := Nat) (fun i => [(0, .v (.slice a T.length c)), (1, .v (.slice a' T.length c')), (12, .v (.int .i64 (T.length : Int))), (13, .v (.int .i64 (i : Int)))]) (fun _ => [])
  (fun i u' m' => i ≤ T.length ∧ m' = PH.mt) (fun i => T.length - i) 0 (by kernel_rfl) (fun _ => by kernel_rfl) ⟨by kernel_rfl, by kernel_rfl, by kernel_rfl⟩ ⟨by omega, rfl⟩ ?_
 rintro J i hJ u1 m1 l1 ⟨hi, rfl⟩
 by_cases hlt : i < T.length
 ·refine G.lssT (i : Int) (T.length : Int) (by kernel_rfl) (by omega) ?_
  have hTi : T[i]? = some T[i] := List.getElem?_eq_getElem hlt
  obtain ⟨ba, oa, rfl, ea⟩ := ListP.at' (h.mono l1) (j := i) (e := termV T[i]) (by simp [hTi])
  obtain ⟨bb, ob, rfl, eb⟩ := ListP.at' (h'.mono l1) (j := i) (e := termV T[i]) (by simp [hTi])
  refine G.addr ba oa T.length c i 3 (by kernel_rfl) (by omega) ?_
  refine G.loadU (some 3) ba (oa + i * 3) (termV T[i]) (by kernel_rfl) (by kernel_rfl) ea ?_
  refine G.addr bb ob T.length c' i 3 (by kernel_rfl) (by omega) ?_
  refine G.loadU (some 3) bb (ob + i * 3) (termV T[i]) (by kernel_rfl) (by kernel_rfl) eb ?_
  refine G.neAgg 57 #[.int .i64 T[i].1.1, .string (mkS T[i].1.2), .string (mkS (ratT T[i].2))] #[.int .i64 T[i].1.1, .string (mkS T[i].1.2), .string (mkS (ratT T[i].2))] true (by kernel_rfl) (by kernel_rfl) (by kernel_rfl) (eqTerm T[i]) ?_
  refine G.add (i : Int) 1 ((i + 1 : Nat) : Int) (by kernel_rfl) (by omega) (by omega) (by omega) ?_
  exact G.back (by kernel_rfl) (hJ (i + 1) _ _ _ ⟨by kernel_rfl, by kernel_rfl, by kernel_rfl⟩ l1 ⟨by omega, rfl⟩ (by omega))
 ·obtain rfl : i = T.length := by omega
  refine G.lssF (T.length : Int) (T.length : Int) (by kernel_rfl) (by omega) ?_
  exact G.ret (.bool true) (by kernel_rfl) ⟨rfl, rfl⟩
def s12T : List (List UInt8 × Nat) := [([120], 2), ([99], 3)]
def s12R (g : Nat) : List SRel := [([114], [0, 1], (some ⟨g, 0, none⟩, 2))]
def s12F : List Feat := [(0, 1, 0), (1, 2, 0)]
def s12S : List (List UInt8) := [[50], [114, 101, 100]]
theorem s12OK {u : PH} {g : Nat} (h : ListP u (.slice (some ⟨g, 0, none⟩) 2 2) 1 (intsV [0, 1])) : SchOK u s12T (s12R g) s12F (-1) where
 att := ⟨names_of (by decide +kernel), fun a ha => by simp [s12T] at ha; rcases ha with rfl | rfl <;> decide⟩
 rel := ⟨names_of (by show (([[114]] : List (List UInt8)).all wordB && decide ([[114]] : List (List UInt8)).Nodup) = true; decide +kernel), fun r hr => by simp [s12R] at hr; subst hr; simp, fun r hr a ha => by simp [s12R] at hr; subst hr; simp at ha; show a < 2; omega, fun r hr => by simp [s12R] at hr; subst hr; simp, fun r hr k x y h1 h2 => by
  simp [s12R] at hr; subst hr
  match k, h1, h2 with
  | 0, h1, h2 => simp at h1 h2; omega
  | k + 1, h1, h2 => simp at h2, fun a ha => ⟨_, List.mem_singleton.2 rfl, by
  have : a < 2 := ha
  simp; omega⟩, fun r hr => by simp [s12R] at hr; subst hr; exact h⟩
 feat := ⟨fun f hf => by
  simp [s12F] at hf
  rcases hf with rfl | rfl
  ·exact ⟨[120], 2, rfl, .inl ⟨rfl, rfl, by decide⟩, by decide⟩
  ·exact ⟨[99], 3, rfl, .inr ⟨rfl, rfl, rfl⟩, by decide⟩, by decide⟩
 t1 := by decide
 t2 := by decide
 r1 := by show 0 < 1; omega
 r2 := by show 1 ≤ 6; omega
 f2 := by decide
 l1 := by decide
 l2 := fun l hl => by omega
theorem s12num : SmR (numT [50]) ∧ ratT (numT [50]) = [50] := numT_spec ⟨2, ⟨by decide +kernel, by decide +kernel⟩, by decide +kernel⟩
theorem s12tup : TupOK s12T s12S := ⟨rfl, fun i x t hx ht => by
 match i, hx, ht with
 | 0, hx, ht => cases hx; cases ht; exact .inr (.inr (.inr ⟨rfl, 2, ⟨by decide +kernel, by decide +kernel⟩, by decide +kernel⟩))
 | 1, hx, ht => cases hx; cases ht; exact .inr (.inl ⟨rfl, by decide +kernel⟩)
 | i + 2, hx, ht => simp [s12T] at hx⟩
theorem s12vec : vecL s12F s12S s12F.length = [(((0 : Int), []), numT [50]), (((1 : Int), [114, 101, 100]), 1)] := by
 show vecL s12F s12S 2 = _
 rw [vecL_succ (i := 1) (f := (1, 2, 0)) rfl, vecL_succ (i := 0) (f := (0, 1, 0)) rfl, vecL_zero]
 unfold vecO
 simp [s12S]
theorem s12cnt : cntB s12F (-1) s12S = true := by decide +kernel
set_option maxHeartbeats 4000000 in
theorem sane12 {u : PH} : Fn0 Tryz.prog 6 [] u fun r _ => r = .bool true := by
 refine Fn0.of Tryz.func6 (by kernel_rfl) (by kernel_rfl) ?_
 refine G.buildU 61 2 24 (.agg #[.string (mkS []), .int .i64 0]) [.agg #[.string (mkS [120]), .int .i64 ((2 : Nat) : Int)], .agg #[.string (mkS [99]), .int .i64 ((3 : Nat) : Int)]] (by kernel_rfl) (fun x hx => by
  simp only [List.mem_cons, List.not_mem_nil, or_false] at hx
  rcases hx with rfl | rfl <;> exact ⟨rfl, List.all_eq_true.1 rfl⟩) rfl (by omega) (by simp) (by simp) ?_
 intro g1 u1 l1 e1
 refine G.buildU 3 1 8 (.int .i64 0) [.int .i64 ((0 : Nat) : Int), .int .i64 ((1 : Nat) : Int)] (by kernel_rfl) (intsV_ok [0, 1]) rfl (by omega) (by simp) (by simp) ?_
 intro g2 u2 l2 e2
 refine G.buildU 74 2 40 (.agg #[.string (mkS []), .slice none 0 0]) [.agg #[.string (mkS [114]), .slice (some ⟨g2, 0, none⟩) 2 2]] (by kernel_rfl) (fun x hx => by
  simp only [List.mem_cons, List.not_mem_nil, or_false] at hx
  subst hx; exact ⟨rfl, List.all_eq_true.1 rfl⟩) rfl (by omega) (by simp) (by simp) ?_
 intro g3 u3 l3 e3
 refine G.buildU 64 3 24 (.agg #[.int .i64 0, .int .i64 0, .int .i64 0]) [.agg #[.int .i64 ((0 : Nat) : Int), .int .i64 ((1 : Nat) : Int), .int .i64 ((0 : Nat) : Int)], .agg #[.int .i64 ((1 : Nat) : Int), .int .i64 ((2 : Nat) : Int), .int .i64 ((0 : Nat) : Int)]] (by kernel_rfl) (fun x hx => by
  simp only [List.mem_cons, List.not_mem_nil, or_false] at hx
  rcases hx with rfl | rfl <;> exact ⟨rfl, List.all_eq_true.1 rfl⟩) rfl (by omega) (by simp) (by simp) ?_
 intro g4 u4 l4 e4
 have hsch : SchP u4 (.agg #[.slice (some ⟨g1, 0, none⟩) 2 2, .slice (some ⟨g3, 0, none⟩) 1 1, .slice (some ⟨g4, 0, none⟩) 2 2, .int .i64 (-1)]) s12T (s12R g2) s12F (-1) :=
  ⟨_, _, _, _, _, _, rfl, e1.listP.mono ((l2.trans l3).trans l4), e3.listP.mono l4, e4.listP⟩
 have hok : SchOK u4 s12T (s12R g2) s12F (-1) := s12OK (e2.listP.mono (l3.trans l4))
 refine G.buildU 9 1 16 (.string (mkS [])) [.string (mkS [50]), .string (mkS [114, 101, 100])] (by kernel_rfl) (nmV_ok [[50], [114, 101, 100]]) rfl (by omega) (by simp) (by simp) ?_
 intro g5 u5 l5 e5
 have hv := encVector0 ⟨hsch.mono l5, hok.mono l5, (e5.listP : ListP u5 _ 1 (s12S.map nmV)), s12tup⟩
 refine G.call0 _ _ (by kernel_rfl) Tryz.call14 hv ?_
 rintro v6 u6 l6 ⟨lv, rfl, hlv⟩
 rw [s12vec] at hlv
 obtain ⟨va, vc, rfl⟩ := hlv.opn
 refine G.buildU 55 2 24 (.agg #[.int .i64 0, .string (mkS [])]) [.agg #[.int .i64 0, .string (mkS [])], .agg #[.int .i64 1, .string (mkS [114, 101, 100])]] (by kernel_rfl) (fun x hx => by
  simp only [List.mem_cons, List.not_mem_nil, or_false] at hx
  rcases hx with rfl | rfl <;> exact ⟨rfl, List.all_eq_true.1 rfl⟩) rfl (by omega) (by simp) (by simp) ?_
 intro g7 u7 l7 e7
 refine G.buildU 9 1 16 (.string (mkS [])) [.string (mkS [50]), .string (mkS [114, 101, 100])] (by kernel_rfl) (nmV_ok [[50], [114, 101, 100]]) rfl (by omega) (by simp) (by simp) ?_
 intro g8 u8 l8 e8
 have le8 : PH.le u4 u8 := ((l5.trans l6).trans l7).trans l8
 have hd := encDense0 (Q := [((0 : Int), []), ((1 : Int), [114, 101, 100])]) ⟨hsch.mono le8, hok.mono le8, (e8.listP : ListP u8 _ 1 (s12S.map nmV)), s12tup⟩ ((e7.listP).mono l8) (by unfold SortK; decide +kernel) (fun x hx => by
  rw [s12vec] at hx
  simp only [List.mem_cons, List.not_mem_nil, or_false] at hx
  rcases hx with rfl | rfl <;> simp) (by simp)
 refine G.call0 _ _ (by kernel_rfl) Tryz.call13 hd ?_
 rintro v9 u9 l9 ⟨ld, rfl, hld⟩
 rw [s12vec] at hld
 have hden : denL [((0 : Int), []), ((1 : Int), [114, 101, 100])] [(((0 : Int), []), numT [50]), (((1 : Int), [114, 101, 100]), 1)] = [[49], [50], [49]] := by
  unfold denL
  simp only [List.map_cons, List.map_nil, assocQ]
  simp [s12num.2, ratT_one]
 rw [hden] at hld
 obtain ⟨da, dc, rfl⟩ := hld.opn
 refine G.eqlT 0 0 (by kernel_rfl) (by omega) ?_
 refine G.buildU 57 3 40 (.agg #[.int .i64 0, .string (mkS []), .string (mkS [])]) [.agg #[.int .i64 0, .string (mkS []), .string (mkS [50])], .agg #[.int .i64 1, .string (mkS [114, 101, 100]), .string (mkS [49])]] (by kernel_rfl) (fun x hx => by
  simp only [List.mem_cons, List.not_mem_nil, or_false] at hx
  rcases hx with rfl | rfl <;> exact ⟨rfl, List.all_eq_true.1 rfl⟩) rfl (by omega) (by simp) (by simp) ?_
 intro g10 u10 l10 e10
 have hterm : [Value.agg #[.int .i64 0, .string (mkS []), .string (mkS [50])], .agg #[.int .i64 1, .string (mkS [114, 101, 100]), .string (mkS [49])]] = ([(((0 : Int), []), numT [50]), (((1 : Int), [114, 101, 100]), 1)] : List (Par × Rat)).map termV := by
  simp [termV, s12num.2, ratT_one]
 have e10' := e10.listP
 rw [hterm] at e10'
 refine G.call0 _ _ (by kernel_rfl) Tryz.call21 (refTerms0 (hlv.mono ((((l7.trans l8).trans l9).trans l10))) e10' (by simp)) ?_
 rintro v11 u11 l11 rfl
 refine G.eqlT 0 0 (by kernel_rfl) (by omega) ?_
 refine G.buildU 34 1 16 (.string (mkS [])) [.string (mkS [49]), .string (mkS [50]), .string (mkS [49])] (by kernel_rfl) (strsV_ok [[49], [50], [49]]) rfl (by omega) (by simp) (by simp) ?_
 intro g12 u12 l12 e12
 refine G.call0 _ _ (by kernel_rfl) Tryz.call22 (refSame0 (ts := [[49], [50], [49]]) (ts' := [[49], [50], [49]]) (hld.mono ((l10.trans l11).trans l12)) e12.listP (by simp) (by simp)) ?_
 rintro v13 u13 l13 rfl
 refine G.buildU 9 1 16 (.string (mkS [])) [.string (mkS [50]), .string (mkS [114, 101, 100])] (by kernel_rfl) (nmV_ok [[50], [114, 101, 100]]) rfl (by omega) (by simp) (by simp) ?_
 intro g14 u14 l14 e14
 have le14 : PH.le u4 u14 := ((((((le8.trans l9).trans l10).trans l11).trans l12).trans l13).trans l14)
 refine G.call0 _ _ (by kernel_rfl) Tryz.call12 (encCounts0 ⟨hsch.mono le14, hok.mono le14, (e14.listP : ListP u14 _ 1 (s12S.map nmV)), s12tup⟩) ?_
 rintro v15 u15 l15 rfl
 rw [s12cnt]
 exact G.ret (.bool true) (by kernel_rfl) ⟨rfl, rfl⟩
end Go.Proofs.YtpdboaedoimahaaGreatDoor
end
section
set_option linter.unusedSectionVars false
set_option linter.unusedVariables false
namespace Go.Proofs.YtpdboaedoimahaaGreatDoor
open Go.RowKit Go.MapKept
theorem refZero10 {u : PH} : Fn0 Tryz.prog 20 [] u fun r _ => r = .agg #[.string (mkS (ratT 0)), .slice none 0 0, .slice none 0 0] := by
 refine Fn0.of Tryz.func20 (by kernel_rfl) (by kernel_rfl) ?_
 exact G.ret (.agg #[.string (mkS (ratT 0)), .slice none 0 0, .slice none 0 0]) (by kernel_rfl) ⟨rfl, rfl⟩
end Go.Proofs.YtpdboaedoimahaaGreatDoor
end
section
set_option linter.unusedSectionVars false
set_option linter.unusedVariables false
namespace Go.Proofs.YtpdboaedoimahaaGreatDoor
open Go.RowKit Go.MapKept
theorem snoc_ind {α : Type} {p : List α → Prop} (h0 : p []) (h1 : ∀ l a, p l → p (l ++ [a])) (l : List α) : p l := by
 have : ∀ r : List α, p r.reverse := fun r => by
  induction r with
  | nil => exact h0
  | cons a r ih => rw [List.reverse_cons]; exact h1 _ _ ih
 have := this l.reverse
 rwa [List.reverse_reverse] at this
noncomputable def sumT (F : List Feat) (lab : Int) (L : List WRow) : CF := L.foldl (fun C y => C.add ((cfT F lab y.1).scale (y.2.1 : Rat))) (CF.num 0)
theorem sumT_snoc (F : List Feat) (lab : Int) (L : List WRow) (y : WRow) : sumT F lab (L ++ [y]) = (sumT F lab L).add ((cfT F lab y.1).scale (y.2.1 : Rat)) := by
 unfold sumT; rw [List.foldl_append]; rfl
theorem dn_w {w : Nat} (h : w ≤ 7) : Dn 0 7 (w : Rat) := ⟨(w : Int), by simp [Rat.intCast_natCast], by simpa using h⟩
theorem cfT_ok {u : PH} {T : List (List UInt8 × Nat)} {R : List SRel} {F : List Feat} {lab : Int} {ss : List (List UInt8)} (ok : SchOK u T R F lab) (ht : TupOK T ss) : CFD (2 * T.length) (46656 ^ T.length) (cfT F lab ss) ∧ CFV (cfT F lab ss) := by
 have hsm := lifts_small ok ht
 have hl : (lifts F lab ss).length = T.length := by rw [lifts_len]; exact ht.len
 have := prdL_cfd hsm (lifts F lab ss).length (Nat.le_refl _)
 rw [List.take_length, hl] at this
 exact this
theorem sumT_ok {u : PH} {T : List (List UInt8 × Nat)} {R : List SRel} {F : List Feat} {lab : Int} (ok : SchOK u T R F lab) : ∀ {L : List WRow}, (∀ y ∈ L, TupOK T y.1 ∧ y.2.1 ≤ 7) → CFD (2 * T.length) (L.length * (46656 ^ T.length * 7)) (sumT F lab L) ∧ CFV (sumT F lab L) := by
 intro L
 induction L using snoc_ind with
 | h0 => exact fun _ => ⟨CFD.count (Dn.zero _ _), CFV.count 0⟩
 | h1 L y ih =>
  intro h
  obtain ⟨i1, i2⟩ := ih fun z hz => h z (List.mem_append_left _ hz)
  obtain ⟨h1, h2⟩ := h y (by simp)
  obtain ⟨c1, c2⟩ := cfT_ok ok h1
  rw [sumT_snoc]
  refine ⟨?_, i2.add (c2.scale _)⟩
  have := i1.add (c1.scale (dn_w h2))
  rw [List.length_append, List.length_singleton, Nat.add_mul, Nat.one_mul]
  exact this
theorem powT6 {n : Nat} (h : n ≤ 6) : 46656 ^ n * 7 * 100 < 10 ^ 100 := by
 have h1 : 46656 ^ n ≤ 46656 ^ 6 := Nat.pow_le_pow_right (by omega) h
 have h2 : 46656 ^ 6 < 10 ^ 50 := by decide +kernel
 have h3 : (10 : Nat) ^ 50 * 100000 < 10 ^ 100 := by decide +kernel
 omega
theorem ratT_w (w : Nat) : Lib.itoa (w : Int) = ratT (w : Rat) := by
 rw [← ratT_z, Rat.intCast_natCast]
set_option maxHeartbeats 4000000 in
theorem added0 {u : PH} {v : Value} {T : List (List UInt8 × Nat)} {R : List SRel} {F : List Feat} {lab : Int} {a : Option Addr} {c : Nat} {L : List WRow} (hX : SchP u v T R F lab) (ok : SchOK u T R F lab) (hT6 : T.length ≤ 6) (hL : ListP u (.slice a L.length c) 2 (L.map wrowV)) (hW : WOK u T L) (hl : L.length ≤ 5) :
  Fn0 Tryz.prog 10 [v, .slice a L.length c] u fun r u' => ∃ x, r = .tuple #[x, .bool true] ∧ CofP u' x (sumT F lab L) 1275 := by
 obtain ⟨xa, xc, xb, xd, xe, xf, rfl, hTL, hRL, hFL⟩ := id hX
 have hp6 := powT6 hT6
 refine Fn0.of Tryz.func10 (by kernel_rfl) (by kernel_rfl) ?_
 refine G.call0 _ _ (by kernel_rfl) Tryz.call20 refZero10 ?_
 rintro v1 u1 l1 rfl
 refine G.loop (ι := Nat × CF × (Option Addr × Nat × Nat) × (Option Addr × Nat × Nat)) (fun i => [(2, .p 0 0), (4, .p 1 0), (6, .p 1001 0), (16, .v (.slice a L.length c)), (17, .v (.int .i64 (L.length : Int))), (18, .v (.int .i64 (i.1 : Int)))])
  (fun i => [(0, ⟨30, [.v (.slice xa T.length xc), .v (.slice xb R.length xd), .v (.slice xe F.length xf), .v (.int .i64 lab)]⟩), (1, ⟨38, [.v (.string (mkS [])), .v (.slice none 0 0), .v (.slice none 0 0)]⟩), (1001, ⟨38, [.v (.string (mkS (ratT i.2.1.c))), .v (.slice i.2.2.1.1 i.2.2.1.2.1 i.2.2.1.2.2), .v (.slice i.2.2.2.1 i.2.2.2.2.1 i.2.2.2.2.2)]⟩)])
  (fun i u' m' => i.1 ≤ L.length ∧ i.2.1 = sumT F lab (L.take i.1) ∧ CofP u' (.agg #[.string (mkS (ratT i.2.1.c)), .slice i.2.2.1.1 i.2.2.1.2.1 i.2.2.1.2.2, .slice i.2.2.2.1 i.2.2.2.2.1 i.2.2.2.2.2]) i.2.1 (255 * i.1) ∧ m' = PH.mt)
  (fun i => L.length - i.1) (0, CF.num 0, (none, 0, 0), (none, 0, 0)) (by kernel_rfl) (fun _ => by kernel_rfl) ⟨by kernel_rfl, by kernel_rfl, by kernel_rfl⟩ ⟨by omega, rfl, cofP_num u1 0, rfl⟩ ?_
 rintro J ⟨i, C, ⟨b1, n1, c1⟩, ⟨b2, n2, c2⟩⟩ hJ u2 m2 l2 ⟨hi, hC, k2, rfl⟩
 simp only at hi hC k2 hJ
 subst hC
 have le2 := l1.trans l2
 by_cases hlt : i < L.length
 ·refine G.lssT (i : Int) (L.length : Int) (by kernel_rfl) (by omega) ?_
  obtain ⟨y, hLi⟩ : ∃ y, L[i]? = some y := ⟨_, List.getElem?_eq_getElem hlt⟩
  obtain ⟨hS, hT, hw1, hw2⟩ := hW y (List.mem_of_getElem? hLi)
  obtain ⟨ba, oa, rfl, ea⟩ := ListP.at' (hL.mono le2) (j := i) (e := wrowV y) (by simp [hLi])
  obtain ⟨ss, w, ya, yc⟩ := y
  simp only at hS hT hw1 hw2
  have htk : L.take (i + 1) = L.take i ++ [(ss, w, ya, yc)] := by rw [List.take_add_one, hLi]; rfl
  have hP : TupP u (.agg #[.slice xa T.length xc, .slice xb R.length xd, .slice xe F.length xf, .int .i64 lab]) (.slice ya ss.length yc) T R F lab ss := ⟨hX, ok, hS, hT⟩
  have hlen := hT.len
  obtain ⟨d1, d2⟩ := cfT_ok ok hT
  have sF : CFS (cfT F lab ss) := d1.cfs (by omega) (by omega)
  have sK : CFS ((cfT F lab ss).scale (w : Rat)) := (d1.scale (dn_w hw2)).cfs (by omega) (by omega)
  have vK : CFV ((cfT F lab ss).scale (w : Rat)) := d2.scale _
  have hall : ∀ n, ∀ y ∈ L.take n, TupOK T y.1 ∧ y.2.1 ≤ 7 := fun n y hy => by
   obtain ⟨_, q1, _, q2⟩ := hW y (List.mem_of_mem_take hy); exact ⟨q1, q2⟩
  have hsz : ∀ n, (L.take n).length * (46656 ^ T.length * 7) < 10 ^ 100 := fun n => by
   have : (L.take n).length ≤ 100 := by rw [List.length_take]; omega
   have := Nat.mul_le_mul_right (46656 ^ T.length * 7) this
   omega
  obtain ⟨s1, s2⟩ := sumT_ok ok (hall i)
  obtain ⟨s3, s4⟩ := sumT_ok ok (hall (i + 1))
  have hsum : sumT F lab (L.take (i + 1)) = (sumT F lab (L.take i)).add ((cfT F lab ss).scale (w : Rat)) := by rw [htk, sumT_snoc]
  refine G.addr ba oa L.length c i 2 (by kernel_rfl) hlt ?_
  refine G.loadU (some 2) ba (oa + i * 2) (.agg #[.slice ya ss.length yc, .int .i64 (w : Int)]) (by kernel_rfl) (by kernel_rfl) ea ?_
  refine G.call0 _ _ (by kernel_rfl) Tryz.call27 (refCof0 (hP.mono le2) (by omega)) ?_
  rintro v3 u3 l3 ⟨r3, rfl, k3⟩
  obtain ⟨e1, f1, g1, e2, f2, g2, rfl⟩ := k3.opn
  refine G.call0 _ _ (by kernel_rfl) Tryz.call29 (refWhole0 (z := (w : Int)) (by omega) (by omega)) ?_
  rintro v4 u4 l4 rfl
  rw [ratT_w]
  have hwb : SB (w : Rat) := (dn_w hw2).small (by omega) (by omega)
  refine G.call0 _ _ (by kernel_rfl) Tryz.call28 (refScaleC0 (k3.mono l4) sF d2 (by omega) hwb sK) ?_
  rintro v5 u5 l5 ⟨r5, rfl, k5⟩
  obtain ⟨e3, f3, g3, e4, f4, g4, rfl⟩ := k5.opn
  refine G.call0 _ _ (by kernel_rfl) Tryz.call30 (refAddC0 (((k2.mono l3).mono l4).mono l5) (s1.cfs (by omega) (hsz i)) s2 (by omega) k5 sK vK (by omega) (by rw [← hsum]; exact s3.cfs (by omega) (hsz (i + 1)))) ?_
  rintro v6 u6 l6 ⟨r6, rfl, k6⟩
  rw [← hsum] at k6
  obtain ⟨e5, f5, g5, e6, f6, g6, rfl⟩ := k6.opn
  refine G.neqF 0 0 (by kernel_rfl) (by omega) ?_
  refine G.neqF 0 0 (by kernel_rfl) (by omega) ?_
  refine G.neqF 0 0 (by kernel_rfl) (by omega) ?_
  refine G.add (i : Int) 1 ((i + 1 : Nat) : Int) (by kernel_rfl) (by omega) (by omega) (by omega) ?_
  exact G.back (by kernel_rfl) (hJ (i + 1, sumT F lab (L.take (i + 1)), (e5, f5, g5), (e6, f6, g6)) _ _ _ ⟨by kernel_rfl, by kernel_rfl, by kernel_rfl⟩ ((((l2.trans l3).trans l4).trans l5).trans l6) ⟨by dsimp only; omega, rfl, k6.up (by dsimp only; omega), rfl⟩ (by dsimp only; omega))
 ·obtain rfl : i = L.length := by omega
  refine G.lssF (L.length : Int) (L.length : Int) (by kernel_rfl) (by omega) ?_
  rw [List.take_length] at k2 ⊢
  exact G.ret (.tuple #[.agg #[.string (mkS (ratT (sumT F lab L).c)), .slice b1 n1 c1, .slice b2 n2 c2], .bool true]) (by kernel_rfl) ⟨rfl, _, rfl, k2.up (by omega)⟩
end Go.Proofs.YtpdboaedoimahaaGreatDoor
end
section
set_option linter.unusedSectionVars false
set_option linter.unusedVariables false
namespace Go.Proofs.YtpdboaedoimahaaGreatDoor
open Go.RowKit Go.MapKept Go.Shelf Go.Sort
theorem flat_par (L : List Par) : flat (L.map parV) = L.flatMap cellsPar := by
 unfold flat
 rw [List.flatMap_map]
 rfl
theorem cellsPar_all (L : List Par) : (L.flatMap cellsPar).length = L.length * 2 := by
 induction L with
 | nil => rfl
 | cons x L ih => rw [List.flatMap_cons, List.length_append, ih, cellsPar_len, List.length_cons, Nat.add_mul]; omega
theorem putCells_row {L L' : List Par} (hl : L'.length = L.length) (rest : List Value) : putCells id 0 (flatK cellsPar 2 L'.toArray) (L.flatMap cellsPar ++ rest).toArray = (L'.flatMap cellsPar ++ rest).toArray := by
 have h1 := cellsPar_all L
 have h2 := cellsPar_all L'
 have hs : (flatK cellsPar 2 L'.toArray).size = L'.length * 2 := by rw [size_flatK]; simp
 apply Array.ext_getElem?
 intro t
 unfold putCells
 rw [Array.getElem?_mapIdx, List.getElem?_toArray, List.getElem?_toArray, hs]
 by_cases ht : t < L'.length * 2
 ·rw [List.getElem?_append_left (by omega), List.getElem?_append_left (by omega), flatMap_at cellsPar_len L' t ht]
  have : (L.flatMap cellsPar)[t]? = some (L.flatMap cellsPar)[t] := List.getElem?_eq_getElem (by omega)
  rw [this]
  simp only [Option.map_some, Nat.zero_le, Nat.zero_add, true_and, if_pos ht, id, Nat.sub_zero]
  rw [get_flatK cellsPar 2 _ t (by simpa using ht)]
 ·rw [List.getElem?_append_right (by omega), List.getElem?_append_right (by omega), h1, h2, hl]
  cases hr : rest[t - L.length * 2]? with
  | none => rfl
  | some x =>
   simp only [Option.map_some, Nat.zero_le, Nat.zero_add, true_and]
   rw [if_neg (by omega)]
theorem parsV_ok (L : List Par) : ElsOK 2 (L.map parV) := by
 intro e he
 obtain ⟨x, _, rfl⟩ := List.mem_map.1 he
 exact ⟨rfl, fun y hy => by simp [parV, Value.cells] at hy; rcases hy with rfl | rfl <;> rfl⟩
set_option maxHeartbeats 2000000 in
theorem sortOwn0 {u m0 m : PH} {v : Value} {L : List Par} (hA : ArrAt m0 m v 55 2 (L.map parV)) (hnd : L.Nodup) (hl : L.length ≤ 1000000) :
  Contract Tryz.prog 37 [v, .func (.func 38) #[] #[]] u m fun r u' m' => r = .tuple #[] ∧ ArrAt m0 m' v 55 2 ((sorted cmpP L).map parV) := by
 have hp := sorted_perm (c := cmpP) L
 have hpl : (sorted cmpP L).length = L.length := hp.length_eq
 intro w hg
 obtain ⟨hok, h⟩ := hA
 rcases h with ⟨rfl, he, rfl⟩ | ⟨g, cap, rest, hm0, rfl, rfl, hcap, hlen, hrest⟩
 ·have hL : L = [] := by simpa using he
  subst hL
  refine (AnyF.slices_SortFunc_none Tryz.sortPar none 0 _ w).mono ?_
  rintro e w' ⟨rfl, rfl⟩
  exact ⟨_, u, m, rfl, hg, ⟨Nat.le_refl _, fun _ _ _ => rfl, fun _ _ => rfl, fun _ _ h => h, ⟨rfl, rfl⟩, fun f => f.elim⟩, rfl, by
   have e : sorted cmpP ([] : List Par) = [] := List.length_eq_zero_iff.1 hpl
   rw [e]; exact ArrAt.nil _ _ _⟩
 ·rw [List.length_map] at hcap ⊢
  rw [flat_par] at hlen hg
  have hgb : w.heap[g]? = some (.cells (L.flatMap cellsPar ++ rest).toArray 55 (0, 0)) := hg.pm g _ (upd_same _ _ _)
  have hH : HoldsK cellsPar 2 w g 0 L.toArray := holds_row (enc := cellsPar) (k := 2) cellsPar_len hgb (by
   show (L.flatMap cellsPar ++ rest).take (L.length * 2) = _
   rw [List.take_append_of_le_length (by rw [cellsPar_all]; omega), List.take_of_length_le (by rw [cellsPar_all]; omega)])
  have hgl : g < w.heap.size := lt_of_at hgb
  have hcon := AnyQ.slices_SortFunc_total Tryz.sortPar 2 (fun w => by kernel_rfl) (fun w => by kernel_rfl) cellsPar (fun _ => rfl) (fun x v hv => by simp at hv; rcases hv with rfl | rfl <;> rfl) cmpP ordP.swo 38 #[] g 0 cap L.toArray w Tryz.call38 (cmpLaysPar g 0 _ w) hH hgl (by simp; omega) ordP.tot
  change Calls Tryz.prog 37 _ _ _ at hcon
  simp only [List.size_toArray] at hcon
  refine Calls.mono hcon ?_
  rintro e w' ⟨rfl, nn, os, rfl⟩
  change finR _ _ _ (sortWorldK cellsPar 2 w g 0 nn (sorted cmpP L).toArray os)
  obtain ⟨w', hw'⟩ : ∃ w', w' = sortWorldK cellsPar 2 w g 0 nn (sorted cmpP L).toArray os := ⟨_, rfl⟩
  have hheap : w'.heap = w.heap.modify g (onCells (putCells id 0 (flatK cellsPar 2 (sorted cmpP L).toArray))) ++ os := by rw [hw']; rfl
  have hos : w'.os = w.os ∧ w'.output = w.output := by rw [hw']; exact ⟨rfl, rfl⟩
  rw [← hw']
  have hsz : w.heap.size ≤ w'.heap.size := by rw [hheap, Array.size_append, Array.size_modify]; omega
  have hold : ∀ k, k < w.heap.size → k ≠ g → w'.heap[k]? = w.heap[k]? := fun k hk hne => by
   rw [hheap, Array.getElem?_append_left (by rw [Array.size_modify]; exact hk), Array.getElem?_modify, if_neg (fun e => hne e.symm)]
  have hnew : w'.heap[g]? = some (.cells ((sorted cmpP L).flatMap cellsPar ++ rest).toArray 55 (0, 0)) := by
   rw [hheap, Array.getElem?_append_left (by rw [Array.size_modify]; exact hgl), Array.getElem?_modify, if_pos rfl, hgb]
   show some (Obj.cells (putCells id 0 _ _) _ _) = _
   rw [putCells_row hpl]
  have hug : u g = none := (hg.ap g).resolve_right (by rw [upd_same]; simp)
  have hpar := parsV_ok (sorted cmpP L)
  refine ⟨_, fun k => if k < w.heap.size then u k else w'.heap[k]?, m0.upd g (.cells (flat ((sorted cmpP L).map parV) ++ rest).toArray 55 (0, 0)), rfl, ⟨?_, ?_, ?_, ?_⟩, ⟨hsz, ?_, ?_, ?_, hos, fun f => f.elim⟩, rfl, hpar, .inr ⟨g, cap, rest, hm0, rfl, by rw [List.length_map, hpl], by rw [List.length_map, hpl]; exact hcap, ?_, hrest⟩⟩
  ·intro k o hk
   simp only at hk
   split at hk
   ·rename_i hlt
    have hne : k ≠ g := fun e => by subst e; rw [hug] at hk; cases hk
    rw [hold k hlt hne]; exact hg.pu k o hk
   ·exact hk
  ·intro k o hk
   by_cases e : k = g
   ·subst e
    rw [upd_same] at hk; cases hk
    rw [hnew, flat_par]
   ·rw [upd_ne _ _ e] at hk
    have := hg.pm k o (by rw [upd_ne _ _ e]; exact hk)
    rw [hold k (lt_of_at this) e]; exact this
  ·intro k
   simp only
   by_cases hlt : k < w.heap.size
   ·rw [if_pos hlt]
    rcases hg.ap k with h | h
    ·exact .inl h
    ·by_cases e : k = g
     ·subst e; rw [upd_same] at h; cases h
     ·right; rw [upd_ne _ _ e] at h ⊢; exact h
   ·right
    have e : k ≠ g := fun e => by omega
    rw [upd_ne _ _ e]
    have := hg.pm.none (g := k) (by show w.heap.size ≤ k; omega)
    rw [upd_ne _ _ e] at this
    exact this
  ·intro k cs t fr j z hk hj
   simp only
   by_cases hlt : k < w.heap.size
   ·rw [if_pos hlt]
    by_cases e : k = g
    ·subst e
     rw [hnew] at hk
     cases hk
     exfalso
     have hmem : Value.int .u64 z ∈ (sorted cmpP L).flatMap cellsPar ++ rest := by
      rw [List.getElem?_toArray] at hj
      exact List.mem_of_getElem? hj
     have hall : ∀ x ∈ (sorted cmpP L).flatMap cellsPar ++ rest, cellOK x = true := fun x hx => by
      rcases List.mem_append.1 hx with h | h
      ·rw [← flat_par] at h; exact flat_ok hpar x h
      ·exact hrest x h
     have := hall _ hmem
     cases this
    ·rw [hold k hlt e] at hk
     exact hg.cl k cs t fr j z hk hj
   ·rw [if_neg hlt]; exact hk
  ·intro k hk hmk
   refine hold k hk fun e => ?_
   subst e
   simp only at hmk
   rw [upd_same] at hmk; cases hmk
  ·intro k hk
   simp only
   exact if_pos hk
  ·intro k hk hmk
   by_cases e : k = g
   ·subst e; simp only at hmk; rw [upd_same] at hmk; cases hmk
   ·simp only at hmk; rw [upd_ne _ _ e] at hmk ⊢; exact hmk
  ·rw [flat_par, List.length_append, cellsPar_all, hpl]
   rw [List.length_append, cellsPar_all] at hlen
   exact hlen
end Go.Proofs.YtpdboaedoimahaaGreatDoor
end
section
set_option linter.unusedSectionVars false
set_option linter.unusedVariables false
namespace Go.Proofs.YtpdboaedoimahaaGreatDoor
open Go.RowKit Go.MapKept
def BelP (F : List Feat) (lab : Int) (p : Par) : Prop := (p.1 = -1 ∧ 0 ≤ lab ∧ p.2 = []) ∨ (∃ (k : Nat) (f : Feat), p.1 = (k : Int) ∧ F[k]? = some f ∧ (f.2.1 = 2 ∨ p.2 = []))
theorem belongs0 {u : PH} {v : Value} {T : List (List UInt8 × Nat)} {R : List SRel} {F : List Feat} {lab : Int} {p : Par} (hX : SchP u v T R F lab) (ok : SchOK u T R F lab) (hp : BelP F lab p) :
  Fn0 Tryz.prog 35 [v, parV p] u fun r _ => r = .bool true := by
 obtain ⟨xa, xc, xb, xd, xe, xf, rfl, hTL, hRL, hFL⟩ := hX
 have hf8 := ok.f2
 refine Fn0.of Tryz.func35 (by kernel_rfl) (by kernel_rfl) ?_
 rcases hp with ⟨h1, h2, h3⟩ | ⟨k, f, h1, hf, h3⟩
 ·refine G.eqlT p.1 (-1) (by kernel_rfl) h1 ?_
  refine G.geqT lab 0 (by kernel_rfl) h2 ?_
  refine G.eqST p.2 [] (by kernel_rfl) h3 ?_
  exact G.ret (.bool true) (by kernel_rfl) ⟨rfl, rfl⟩
 ·obtain ⟨p1, p2⟩ := p
  simp only at h1 h3
  subst h1
  have hk := (List.getElem?_eq_some_iff.1 hf).1
  obtain ⟨bb, ob, rfl, eb⟩ := ListP.at' hFL (j := k) (e := featV f) (by simp [hf])
  obtain ⟨f1, f2, f3⟩ := f
  simp only at h3
  refine G.eqlF (k : Int) (-1) (by kernel_rfl) (by omega) ?_
  refine G.geqF (k : Int) (F.length : Int) (by kernel_rfl) (by omega) ?_
  refine G.addr bb ob F.length xf k 3 (by kernel_rfl) hk ?_
  refine G.fieldA 64 bb (ob + k * 3) 1 1 (by kernel_rfl) (by kernel_rfl) ?_
  refine G.loadU none bb (ob + k * 3 + 1) (.int .i64 (f2 : Int)) (by kernel_rfl) (by kernel_rfl) (eb.fld (j := 1) (xs := #[.int .i64 (f1 : Int), .int .i64 (f2 : Int), .int .i64 (f3 : Int)]) rfl rfl) ?_
  by_cases h2 : f2 = 2
  ·refine G.eqlT (f2 : Int) 2 (by kernel_rfl) (by omega) ?_
   exact G.ret (.bool true) (by kernel_rfl) ⟨rfl, rfl⟩
  ·refine G.eqlF (f2 : Int) 2 (by kernel_rfl) (by omega) ?_
   refine G.eqST p2 [] (by kernel_rfl) (h3.resolve_left h2) ?_
   exact G.ret (.bool true) (by kernel_rfl) ⟨rfl, rfl⟩
theorem prmBad0 {u m : PH} {b : Nat} {v : Value} {T : List (List UInt8 × Nat)} {R : List SRel} {F : List Feat} {lab : Int} {x : Par × Rat} (hb : ElP m b 0 v) (hX : SchP u v T R F lab) (ok : SchOK u T R F lab) (hp : BelP F lab x.1) :
  FnK Tryz.prog 34 [termV x, .pointer (some ⟨b, 0, none⟩)] u m fun v _ => v = .bool false := by
 have hbel := belongs0 hX ok hp
 obtain ⟨xa, xc, xb, xd, xe, xf, rfl, hTL, hRL, hFL⟩ := hX
 refine FnK.of Tryz.func34 (by kernel_rfl) (by kernel_rfl) ?_
 refine G.loadM (some 4) b 0 (.agg #[.slice xa T.length xc, .slice xb R.length xd, .slice xe F.length xf, .int .i64 lab]) (by kernel_rfl) (by kernel_rfl) hb ?_
 refine G.call0 _ _ (by kernel_rfl) Tryz.call35 hbel ?_
 rintro v1 u1 l1 rfl
 exact G.ret (.bool false) (by kernel_rfl) ⟨rfl, rfl⟩
theorem tIndexK0 {u m : PH} {v cap : Value} {T : List (Par × Rat)} {fid : Nat} (h : ListP u v 3 (T.map termV)) (hl : T.length ≤ 1000000)
  (hcall : ∀ args w, (callFunc fid args).run Tryz.prog w = .ok (.enter fid args) w) (hf : ∀ p ∈ T, ∀ u', PH.le u u' → FnK Tryz.prog fid [termV p, cap] u' m fun v _ => v = .bool false) :
  FnK Tryz.prog 76 [v, .func (.func fid) #[] #[cap]] u m fun v' _ => v' = .int .i64 (-1) := by
 obtain ⟨a, c, rfl⟩ := h.opn
 rw [List.length_map] at h ⊢
 refine FnK.of Tryz.func76 (by kernel_rfl) (by kernel_rfl) ?_
 refine G.loop (ι := Nat) (fun i => [(0, .v (.slice a T.length c)), (1, .v (.func (.func fid) #[] #[cap])), (7, .v (.int .i64 (T.length : Int))), (8, .v (.int .i64 (i : Int)))]) (fun _ => [])
  (fun i u' m' => i ≤ T.length ∧ m' = m) (fun i => T.length - i) 0 (by kernel_rfl) (fun _ => by kernel_rfl) ⟨by kernel_rfl, by kernel_rfl, by kernel_rfl⟩ ⟨by omega, rfl⟩ ?_
 rintro J i hJ u1 m1 l1 ⟨hi, rfl⟩
 by_cases hlt : i < T.length
 ·refine G.lssT (i : Int) (T.length : Int) (by kernel_rfl) (by omega) ?_
  have hTi : T[i]? = some T[i] := List.getElem?_eq_getElem hlt
  obtain ⟨ba, oa, rfl, ea⟩ := ListP.at' (h.mono l1) (j := i) (e := termV T[i]) (by simp [hTi])
  refine G.addr ba oa T.length c i 3 (by kernel_rfl) (by omega) ?_
  refine G.loadU (some 3) ba (oa + i * 3) (termV T[i]) (by kernel_rfl) (by kernel_rfl) ea ?_
  refine G.callK fid [termV T[i], cap] (by kernel_rfl) hcall (hf T[i] (List.getElem_mem hlt) u1 l1) ?_
  rintro v2 u2 l2 rfl
  refine G.add (i : Int) 1 ((i + 1 : Nat) : Int) (by kernel_rfl) (by omega) (by omega) (by omega) ?_
  exact G.back (by kernel_rfl) (hJ (i + 1) _ _ _ ⟨by kernel_rfl, by kernel_rfl, by kernel_rfl⟩ (l1.trans l2) ⟨by omega, rfl⟩ (by omega))
 ·obtain rfl : i = T.length := by omega
  refine G.lssF (T.length : Int) (T.length : Int) (by kernel_rfl) (by omega) ?_
  exact G.ret (.int .i64 (-1)) (by kernel_rfl) ⟨rfl, rfl⟩
theorem tContainsK0 {u m : PH} {v cap : Value} {T : List (Par × Rat)} {fid : Nat} (h : ListP u v 3 (T.map termV)) (hl : T.length ≤ 1000000)
  (hcall : ∀ args w, (callFunc fid args).run Tryz.prog w = .ok (.enter fid args) w) (hf : ∀ p ∈ T, ∀ u', PH.le u u' → FnK Tryz.prog fid [termV p, cap] u' m fun v _ => v = .bool false) :
  FnK Tryz.prog 33 [v, .func (.func fid) #[] #[cap]] u m fun v' _ => v' = .bool false := by
 obtain ⟨a, c, rfl⟩ := h.opn
 refine FnK.of Tryz.func33 (by kernel_rfl) (by kernel_rfl) ?_
 refine G.callK _ _ (by kernel_rfl) Tryz.call76 (tIndexK0 h hl hcall hf) ?_
 rintro v1 u1 l1 rfl
 refine G.geqF (-1) 0 (by kernel_rfl) (by omega) ?_
 exact G.ret (.bool false) (by kernel_rfl) ⟨rfl, rfl⟩
def numI (F : List Feat) (n : Nat) : List Nat := (List.range n).filter fun i => (F.getD i (0, 0, 0)).2.1 == 1
theorem numI_succ {F : List Feat} {n : Nat} {f : Feat} (hf : F[n]? = some f) : numI F (n + 1) = if f.2.1 = 1 then numI F n ++ [n] else numI F n := by
 unfold numI
 rw [List.range_succ, List.filter_append]
 have e : (F.getD n (0, 0, 0)) = f := by simp [List.getD_eq_getElem?_getD, hf]
 by_cases h : f.2.1 = 1
 ·rw [if_pos h, List.filter_cons_of_pos (by rw [e]; simp [h])]; rfl
 ·rw [if_neg h, List.filter_cons_of_neg (by rw [e]; simp [h])]; simp
theorem numI_len (F : List Feat) (n : Nat) : (numI F n).length ≤ n := by
 unfold numI
 exact Nat.le_trans (List.length_filter_le _ _) (by simp)
theorem mem_numI {F : List Feat} {n i : Nat} : i ∈ numI F n ↔ i < n ∧ (F.getD i (0, 0, 0)).2.1 = 1 := by
 unfold numI; simp [List.mem_filter]
theorem numI_nodup (F : List Feat) (n : Nat) : (numI F n).Nodup := List.nodup_range.filter _
set_option maxHeartbeats 1000000 in
theorem schNumbers0 {u : PH} {v : Value} {T : List (List UInt8 × Nat)} {R : List SRel} {F : List Feat} {lab : Int} (hX : SchP u v T R F lab) (ok : SchOK u T R F lab) :
  Fn0 Tryz.prog 36 [v] u fun r u' => ListP u' r 1 (intsV (numI F F.length)) := by
 have hck := check0 hX ok
 obtain ⟨xa, xc, xb, xd, xe, xf, rfl, hTL, hRL, hFL⟩ := hX
 have hf8 := ok.f2
 refine Fn0.of Tryz.func36 (by kernel_rfl) (by kernel_rfl) ?_
 refine G.call0 _ _ (by kernel_rfl) Tryz.call31 hck ?_
 rintro v1 u1 l1 rfl
 refine G.neqF 0 0 (by kernel_rfl) (by omega) ?_
 refine G.loop (ι := Nat × (Option Addr × Nat)) (fun i => [(3, .v (.slice i.2.1 (numI F i.1).length i.2.2)), (10, .v (.slice xe F.length xf)), (11, .v (.int .i64 (F.length : Int))), (12, .v (.int .i64 (i.1 : Int)))]) (fun _ => [])
  (fun i u' m' => i.1 ≤ F.length ∧ ArrAt PH.mt m' (.slice i.2.1 (numI F i.1).length i.2.2) 3 1 (intsV (numI F i.1))) (fun i => F.length - i.1) (0, (none, 0)) (by kernel_rfl) (fun _ => by kernel_rfl) ⟨by kernel_rfl, by kernel_rfl, by kernel_rfl⟩ ⟨by omega, ArrAt.nil _ _ _⟩ ?_
 rintro J ⟨i, ⟨na, nc⟩⟩ hJ u2 m2 l2 ⟨hi, hA⟩
 simp only at hi hA hJ
 have le2 := l1.trans l2
 have hnl := numI_len F i
 by_cases hlt : i < F.length
 ·refine G.lssT (i : Int) (F.length : Int) (by kernel_rfl) (by omega) ?_
  obtain ⟨f, hFi⟩ : ∃ f, F[i]? = some f := ⟨_, List.getElem?_eq_getElem hlt⟩
  have hs := numI_succ hFi
  obtain ⟨fb, fo, rfl, ef⟩ := ListP.at' (hFL.mono le2) (j := i) (e := featV f) (by simp [hFi])
  obtain ⟨p1, p2, p3⟩ := f
  simp only at hs
  refine G.addr fb fo F.length xf i 3 (by kernel_rfl) hlt ?_
  refine G.loadU (some 3) fb (fo + i * 3) (.agg #[.int .i64 (p1 : Int), .int .i64 (p2 : Int), .int .i64 (p3 : Int)]) (by kernel_rfl) (by kernel_rfl) ef ?_
  by_cases h1 : p2 = 1
  ·rw [if_pos h1] at hs
   refine G.eqlT (p2 : Int) 1 (by kernel_rfl) (by omega) ?_
   refine G.buildU 3 1 8 (.int .i64 0) (intsV [i]) (by kernel_rfl) (intsV_ok [i]) rfl (by omega) (by simp [intsV]) (by simp [intsV]) ?_
   intro g3 u3 l3 e3
   refine G.append 3 1 8 (.int .i64 0) PH.mt (intsV (numI F i)) (intsV [i]) (.slice na (numI F i).length nc) g3 0 1 1 (by kernel_rfl) rfl rfl (by omega) hA e3 (intsV_ok [i]) rfl (by omega) (by simp [intsV]; omega) (by simp [intsV]; omega) ?_
   intro v4 m4 hA4
   have e4 : intsV (numI F i) ++ intsV [i] = intsV (numI F (i + 1)) := by rw [hs]; simp [intsV]
   rw [e4] at hA4
   obtain ⟨a4, c4, rfl⟩ := hA4.shape
   have e5 : (intsV (numI F (i + 1))).length = (numI F (i + 1)).length := by simp [intsV]
   rw [e5] at hA4 ⊢
   refine G.add (i : Int) 1 ((i + 1 : Nat) : Int) (by kernel_rfl) (by omega) (by omega) (by omega) ?_
   exact G.back (by kernel_rfl) (hJ (i + 1, (a4, c4)) _ _ _ ⟨by kernel_rfl, by kernel_rfl, by kernel_rfl⟩ (l2.trans l3) ⟨by dsimp only; omega, hA4⟩ (by dsimp only; omega))
  ·rw [if_neg h1] at hs
   refine G.eqlF (p2 : Int) 1 (by kernel_rfl) (by omega) ?_
   refine G.add (i : Int) 1 ((i + 1 : Nat) : Int) (by kernel_rfl) (by omega) (by omega) (by omega) ?_
   rw [← hs] at hA ⊢
   exact G.back (by kernel_rfl) (hJ (i + 1, (na, nc)) _ _ _ ⟨by kernel_rfl, by kernel_rfl, by kernel_rfl⟩ l2 ⟨by dsimp only; omega, hA⟩ (by dsimp only; omega))
 ·obtain rfl : i = F.length := by omega
  refine G.lssF (F.length : Int) (F.length : Int) (by kernel_rfl) (by omega) ?_
  refine G.give _ _ _ (by kernel_rfl) hA (fun g => .inl rfl) ?_
  intro u3 l3 hL
  exact G.ret (.slice na (numI F F.length).length nc) (by kernel_rfl) ⟨rfl, hL⟩
end Go.Proofs.YtpdboaedoimahaaGreatDoor
end
section
set_option linter.unusedSectionVars false
set_option linter.unusedVariables false
namespace Go.Proofs.YtpdboaedoimahaaGreatDoor
open Go.RowKit Go.MapKept Go.Sort
def isHot (F : List Feat) (p : Par) : Bool := decide (0 ≤ p.1) && (F.getD p.1.toNat (0, 0, 0)).2.1 == 2
def hotL (F : List Feat) (A : List (Par × Rat)) (n : Nat) : List Par := ((A.take n).map (·.1)).filter (isHot F)
theorem hotL_succ {F : List Feat} {A : List (Par × Rat)} {n : Nat} {x : Par × Rat} (h : A[n]? = some x) : hotL F A (n + 1) = if isHot F x.1 = true then hotL F A n ++ [x.1] else hotL F A n := by
 unfold hotL
 have e : A.take (n + 1) = A.take n ++ [x] := by rw [List.take_add_one, h]; rfl
 rw [e, List.map_append, List.filter_append]
 by_cases hh : isHot F x.1 = true
 ·rw [if_pos hh, List.map_cons, List.filter_cons_of_pos hh]; rfl
 ·rw [if_neg hh, List.map_cons, List.filter_cons_of_neg hh]; simp
theorem hotL_len (F : List Feat) (A : List (Par × Rat)) (n : Nat) : (hotL F A n).length ≤ A.length := by
 unfold hotL
 refine Nat.le_trans (List.length_filter_le _ _) ?_
 rw [List.length_map, List.length_take]; omega
def parI (i : Nat) : Par := ((i : Int), [])
def numP (F : List Feat) : List Par := (numI F F.length).map parI
theorem par1_ok (p : Par) : ElsOK 2 [parV p] := parsV_ok [p]
theorem parsL_nodup {F : List Feat} {A : List (Par × Rat)} (hA : (A.map (·.1)).Nodup) : (numP F ++ hotL F A A.length).Nodup := by
 refine List.nodup_append.2 ⟨?_, ?_, ?_⟩
 ·unfold numP
  refine List.Pairwise.map _ (fun a b hne e => ?_) (numI_nodup F F.length)
  unfold parI at e
  simp only [Prod.mk.injEq, and_true] at e
  exact hne (by omega)
 ·unfold hotL
  rw [List.take_length]
  exact hA.filter _
 ·intro a ha b hb e
  subst e
  unfold numP at ha
  obtain ⟨i, hi, rfl⟩ := List.mem_map.1 ha
  unfold hotL at hb
  have h2 := (List.mem_filter.1 hb).2
  unfold isHot parI at h2
  simp only [Bool.and_eq_true, beq_iff_eq, decide_eq_true_eq, Int.toNat_natCast] at h2
  have h1 := (mem_numI.1 hi).2
  omega
theorem mem_parsL {F : List Feat} {A : List (Par × Rat)} {C : CF} (hA : Can cmpP C.s A) {p : Par} : p ∈ numP F ++ hotL F A A.length ↔ (∃ (i : Nat) (f : Feat), p = parI i ∧ F[i]? = some f ∧ f.2.1 = 1) ∨ (C.s p ≠ 0 ∧ ∃ (i : Nat) (f : Feat), p.1 = (i : Int) ∧ F[i]? = some f ∧ f.2.1 = 2) := by
 have hmem : p ∈ A.map (·.1) ↔ C.s p ≠ 0 := by
  constructor
  ·intro h
   obtain ⟨x, hx, rfl⟩ := List.mem_map.1 h
   obtain ⟨h1, h2⟩ := hA.val x hx
   rw [← h1]; exact h2
  ·intro h
   exact Classical.byContradiction fun hh => h (hA.out p hh)
 rw [List.mem_append]
 refine or_congr ?_ ?_
 ·unfold numP
  rw [List.mem_map]
  constructor
  ·rintro ⟨i, hi, rfl⟩
   obtain ⟨h1, h2⟩ := mem_numI.1 hi
   refine ⟨i, F[i], rfl, List.getElem?_eq_getElem h1, ?_⟩
   rw [List.getD_eq_getElem?_getD, List.getElem?_eq_getElem h1, Option.getD_some] at h2
   exact h2
  ·rintro ⟨i, f, rfl, hf, h1⟩
   refine ⟨i, mem_numI.2 ⟨(List.getElem?_eq_some_iff.1 hf).1, ?_⟩, rfl⟩
   rw [List.getD_eq_getElem?_getD, hf, Option.getD_some]; exact h1
 ·unfold hotL
  rw [List.take_length, List.mem_filter, hmem]
  refine and_congr Iff.rfl ?_
  unfold isHot
  simp only [Bool.and_eq_true, beq_iff_eq, decide_eq_true_eq]
  constructor
  ·rintro ⟨h1, h2⟩
   have hlt : p.1.toNat < F.length := by
    rcases Nat.lt_or_ge p.1.toNat F.length with h | h
    ·exact h
    ·rw [List.getD_eq_getElem?_getD, List.getElem?_eq_none h] at h2; simp at h2
   rw [List.getD_eq_getElem?_getD, List.getElem?_eq_getElem hlt, Option.getD_some] at h2
   exact ⟨p.1.toNat, F[p.1.toNat], by omega, List.getElem?_eq_getElem hlt, h2⟩
  ·rintro ⟨i, f, h1, hf, h2⟩
   refine ⟨by omega, ?_⟩
   rw [h1, Int.toNat_natCast, List.getD_eq_getElem?_getD, hf, Option.getD_some]; exact h2
def PrmP (u : PH) (r : Value) (F : List Feat) (C : CF) : Prop :=
 r = .tuple #[.slice none 0 0, .int .i64 3] ∨ ∃ (ps : Value) (L : List Par), r = .tuple #[ps, .int .i64 0] ∧ ListP u ps 2 (L.map parV) ∧ L.length ≤ 24 ∧ SortK cmpP L ∧ ∀ p, p ∈ L ↔ (∃ (i : Nat) (f : Feat), p = parI i ∧ F[i]? = some f ∧ f.2.1 = 1) ∨ (C.s p ≠ 0 ∧ ∃ (i : Nat) (f : Feat), p.1 = (i : Int) ∧ F[i]? = some f ∧ f.2.1 = 2)
set_option maxHeartbeats 8000000 in
theorem encParams0 {u : PH} {v w : Value} {T : List (List UInt8 × Nat)} {R : List SRel} {F : List Feat} {lab : Int} {C : CF} {K : Nat} (hX : SchP u v T R F lab) (ok : SchOK u T R F lab) (hC : CofP u w C K) (sC : CFS C) (vC : CFV C) (hK : K ≤ 100000) (hb : ∀ p, C.s p ≠ 0 → BelP F lab p) :
  Fn0 Tryz.prog 11 [v, w] u fun r u' => PrmP u' r F C := by
 have hck := fun (u' : PH) (l : PH.le u u') => check0 (hX.mono l) (ok.mono l)
 have hvd := fun (u' : PH) (l : PH.le u u') => valid0 (hC.mono l) sC vC (by omega)
 obtain ⟨xa, xc, xb, xd, xe, xf, rfl, hTL, hRL, hFL⟩ := id hX
 obtain ⟨A, Q, a1, c1, a2, c2, rfl, hA, hQ, cA, cQ, kA, kQ⟩ := hC
 have hf8 := ok.f2
 refine Fn0.of Tryz.func11 (by kernel_rfl) (by kernel_rfl) ?_
 refine G.call0 _ _ (by kernel_rfl) Tryz.call31 (hck u (PH.le_refl _)) ?_
 rintro v1 u1 l1 rfl
 refine G.neqF 0 0 (by kernel_rfl) (by omega) ?_
 refine G.call0 _ _ (by kernel_rfl) Tryz.call32 (hvd u1 l1) ?_
 rintro v2 u2 l2 rfl
 have le2 := l1.trans l2
 refine G.pub 0 30 [.slice xa T.length xc, .slice xb R.length xd, .slice xe F.length xf, .int .i64 lab] (by kernel_rfl) (by kernel_rfl) ?_
 intro b hb1 hb2
 have hcb : ∀ (m' : PH), m' b = some (.cells [Value.slice xa T.length xc, .slice xb R.length xd, .slice xe F.length xf, .int .i64 lab].toArray 30 (0, 0)) → ElP m' b 0 (.agg #[.slice xa T.length xc, .slice xb R.length xd, .slice xe F.length xf, .int .i64 lab]) := fun m' h => elP_of (xs := [.slice xa T.length xc, .slice xb R.length xd, .slice xe F.length xf, .int .i64 lab]) h rfl
 obtain ⟨mb, hmb⟩ : ∃ mb : PH, mb = PH.mt.upd b (.cells [Value.slice xa T.length xc, .slice xb R.length xd, .slice xe F.length xf, .int .i64 lab].toArray 30 (0, 0)) := ⟨_, rfl⟩
 have hmbb : mb b = some (.cells [Value.slice xa T.length xc, .slice xb R.length xd, .slice xe F.length xf, .int .i64 lab].toArray 30 (0, 0)) := by rw [hmb]; exact upd_same _ _ _
 rw [← hmb]
 refine G.callK _ _ (by kernel_rfl) Tryz.call33 (tContainsK0 (cap := .pointer (some ⟨b, 0, none⟩)) (hA.mono le2) (by omega) Tryz.call34 fun x hx u' l' => prmBad0 (hcb mb hmbb) (hX.mono (le2.trans l')) (ok.mono (le2.trans l')) (hb x.1 (by obtain ⟨q1, q2⟩ := cA.val x hx; rw [← q1]; exact q2))) ?_
 rintro v3 u3 l3 rfl
 have le3 := le2.trans l3
 refine G.loadM (some 4) b 0 (.agg #[.slice xa T.length xc, .slice xb R.length xd, .slice xe F.length xf, .int .i64 lab]) (by kernel_rfl) (by kernel_rfl) (hcb mb hmbb) ?_
 refine G.call0 _ _ (by kernel_rfl) Tryz.call36 (schNumbers0 (hX.mono le3) (ok.mono le3)) ?_
 intro v4 u4 l4 hN
 obtain ⟨na, nc, rfl⟩ := hN.opn
 have hni : (intsV (numI F F.length)).length = (numI F F.length).length := by simp [intsV]
 rw [hni] at hN ⊢
 have hnl := numI_len F F.length
 have le4 := le3.trans l4
 refine G.loop (ι := Nat × (Option Addr × Nat)) (fun i => [(2, .v (.pointer (some ⟨b, 0, none⟩))), (3, .p 1 0), (6, .v (.slice i.2.1 ((numI F F.length).take i.1).length i.2.2)), (28, .v (.slice na (numI F F.length).length nc)), (29, .v (.int .i64 ((numI F F.length).length : Int))), (30, .v (.int .i64 (i.1 : Int)))])
  (fun _ => [(1, ⟨38, [.v (.string (mkS (ratT C.c))), .v (.slice a1 A.length c1), .v (.slice a2 Q.length c2)]⟩)])
  (fun i u' m' => i.1 ≤ (numI F F.length).length ∧ ArrAt mb m' (.slice i.2.1 ((numI F F.length).take i.1).length i.2.2) 55 2 ((((numI F F.length).take i.1).map parI).map parV)) (fun i => (numI F F.length).length - i.1) (0, (none, 0)) (by kernel_rfl) (fun _ => by kernel_rfl) ⟨by kernel_rfl, by kernel_rfl, by kernel_rfl⟩ ⟨by omega, ArrAt.nil _ _ _⟩ ?_
 rintro J ⟨i, ⟨pa, pc⟩⟩ hJ u5 m5 l5 ⟨hi, hP⟩
 simp only at hi hP hJ
 have le5 := le4.trans l5
 by_cases hlt : i < (numI F F.length).length
 ·refine G.lssT (i : Int) ((numI F F.length).length : Int) (by kernel_rfl) (by omega) ?_
  obtain ⟨k, hk⟩ : ∃ k, (numI F F.length)[i]? = some k := ⟨_, List.getElem?_eq_getElem hlt⟩
  have htk : (numI F F.length).take (i + 1) = (numI F F.length).take i ++ [k] := by rw [List.take_add_one, hk]; rfl
  obtain ⟨bb, ob, rfl, eb⟩ := ListP.at' (hN.mono l5) (j := i) (e := .int .i64 (k : Int)) (by simp [intsV, hk])
  have htl : ((numI F F.length).take i).length = i := by rw [List.length_take]; omega
  refine G.addr bb ob (numI F F.length).length nc i 1 (by kernel_rfl) hlt ?_
  refine G.loadU none bb (ob + i * 1) (.int .i64 (k : Int)) (by kernel_rfl) (by kernel_rfl) eb ?_
  refine G.buildU 55 2 24 (.agg #[.int .i64 0, .string (mkS [])]) [.agg #[.int .i64 (k : Int), .string (mkS [])]] (by kernel_rfl) (par1_ok (parI k)) rfl (by omega) (by simp) (by simp) ?_
  intro g6 u6 l6 e6
  refine G.append 55 2 24 (.agg #[.int .i64 0, .string (mkS [])]) mb _ [parV (parI k)] _ g6 0 1 1 (by kernel_rfl) rfl rfl (by omega) hP e6 (par1_ok (parI k)) rfl (by omega) (by simp; omega) (by simp; omega) ?_
  intro v7 m7 hA7
  have e7 : (((numI F F.length).take i).map parI).map parV ++ [parV (parI k)] = (((numI F F.length).take (i + 1)).map parI).map parV := by rw [htk]; simp
  rw [e7] at hA7
  obtain ⟨a7, c7, rfl⟩ := hA7.shape
  rw [List.length_map, List.length_map] at hA7 ⊢
  refine G.add (i : Int) 1 ((i + 1 : Nat) : Int) (by kernel_rfl) (by omega) (by omega) (by omega) ?_
  exact G.back (by kernel_rfl) (hJ (i + 1, (a7, c7)) _ _ _ ⟨by kernel_rfl, by kernel_rfl, by kernel_rfl⟩ (l5.trans l6) ⟨by dsimp only; omega, hA7⟩ (by dsimp only; omega))
 obtain rfl : i = (numI F F.length).length := by omega
 refine G.lssF ((numI F F.length).length : Int) ((numI F F.length).length : Int) (by kernel_rfl) (by omega) ?_
 clear hJ
 rw [List.take_length] at hP ⊢
 have hP0 : ArrAt mb m5 (.slice pa (numP F ++ hotL F A 0).length pc) 55 2 ((numP F ++ hotL F A 0).map parV) := by
  have e1 : hotL F A 0 = [] := rfl
  have e2 : (numP F).length = (numI F F.length).length := by unfold numP; simp
  rw [e1, List.append_nil, e2]; exact hP
 have e0 : (numI F F.length).length = (numP F ++ hotL F A 0).length := by
  have e1 : hotL F A 0 = [] := rfl
  have e2 : (numP F).length = (numI F F.length).length := by unfold numP; simp
  rw [e1, List.append_nil, e2]
 rw [e0]
 have hnp : (numP F).length ≤ 8 := by unfold numP; rw [List.length_map]; omega
 refine G.loop (ι := Nat × (Option Addr × Nat)) (fun i => [(2, .v (.pointer (some ⟨b, 0, none⟩))), (6, .v (.slice i.2.1 (numP F ++ hotL F A i.1).length i.2.2)), (41, .v (.slice a1 A.length c1)), (42, .v (.int .i64 (A.length : Int))), (43, .v (.int .i64 (i.1 : Int)))]) (fun _ => [])
  (fun i u' m' => i.1 ≤ A.length ∧ ArrAt mb m' (.slice i.2.1 (numP F ++ hotL F A i.1).length i.2.2) 55 2 ((numP F ++ hotL F A i.1).map parV)) (fun i => A.length - i.1) (0, (pa, pc)) (by kernel_rfl) (fun _ => by kernel_rfl) ⟨by kernel_rfl, by kernel_rfl, by kernel_rfl⟩ ⟨by omega, hP0⟩ ?_
 clear hP hP0 e0
 rintro J ⟨i, ⟨pa, pc⟩⟩ hJ u6 m6 l6 ⟨hi, hP⟩
 simp only at hi hP hJ
 have le6 := le5.trans l6
 have hhl := hotL_len F A i
 by_cases hlt : i < A.length
 ·refine G.lssT (i : Int) (A.length : Int) (by kernel_rfl) (by omega) ?_
  obtain ⟨x, hAi⟩ : ∃ x, A[i]? = some x := ⟨_, List.getElem?_eq_getElem hlt⟩
  have hs := hotL_succ (F := F) hAi
  have hbel : BelP F lab x.1 := hb x.1 (by obtain ⟨q1, q2⟩ := cA.val x (List.mem_of_getElem? hAi); rw [← q1]; exact q2)
  obtain ⟨ba, oa, rfl, ea⟩ := ListP.at' (hA.mono le6) (j := i) (e := termV x) (by simp [hAi])
  obtain ⟨⟨p1, p2⟩, q⟩ := x
  simp only at hs hbel
  refine G.addr ba oa A.length c1 i 3 (by kernel_rfl) hlt ?_
  refine G.loadU (some 3) ba (oa + i * 3) (.agg #[.int .i64 p1, .string (mkS p2), .string (mkS (ratT q))]) (by kernel_rfl) (by kernel_rfl) ea ?_
  have step : ∀ {u7 : PH}, PH.le u6 u7 → isHot F (p1, p2) = false → True := fun _ _ => trivial
  by_cases h0 : 0 ≤ p1
  ·refine G.geqT p1 0 (by kernel_rfl) h0 ?_
   obtain ⟨k, f, hk1, hkf⟩ : ∃ (k : Nat) (f : Feat), p1 = (k : Int) ∧ F[k]? = some f := by
    rcases hbel with ⟨h1, _⟩ | ⟨k, f, h1, hf, _⟩
    ·simp only at h1; omega
    ·exact ⟨k, f, h1, hf⟩
   subst hk1
   have hkl := (List.getElem?_eq_some_iff.1 hkf).1
   have hmb6 : m6 b = some (.cells [Value.slice xa T.length xc, .slice xb R.length xd, .slice xe F.length xf, .int .i64 lab].toArray 30 (0, 0)) := hP.see hmbb
   refine G.fieldA 30 b 0 2 2 (by kernel_rfl) (by kernel_rfl) ?_
   refine G.loadM none b (0 + 2) (.slice xe F.length xf) (by kernel_rfl) (by kernel_rfl) ((hcb m6 hmb6).fld (j := 2) (xs := #[.slice xa T.length xc, .slice xb R.length xd, .slice xe F.length xf, .int .i64 lab]) rfl rfl) ?_
   obtain ⟨fb, fo, rfl, ef⟩ := ListP.at' (hFL.mono le6) (j := k) (e := featV f) (by simp [hkf])
   refine G.addr fb fo F.length xf k 3 (by kernel_rfl) hkl ?_
   obtain ⟨f1, f2, f3⟩ := f
   refine G.fieldA 64 fb (fo + k * 3) 1 1 (by kernel_rfl) (by kernel_rfl) ?_
   refine G.loadU none fb (fo + k * 3 + 1) (.int .i64 (f2 : Int)) (by kernel_rfl) (by kernel_rfl) (ef.fld (j := 1) (xs := #[.int .i64 (f1 : Int), .int .i64 (f2 : Int), .int .i64 (f3 : Int)]) rfl rfl) ?_
   have hot : isHot F ((k : Int), p2) = (f2 == 2) := by
    unfold isHot
    simp only [Int.toNat_natCast, List.getD_eq_getElem?_getD, hkf, Option.getD_some]
    rw [decide_eq_true (by omega)]; rfl
   rw [hot] at hs
   by_cases h2 : f2 = 2
   ·rw [if_pos (by simpa using h2)] at hs
    refine G.eqlT (f2 : Int) 2 (by kernel_rfl) (by omega) ?_
    refine G.buildU 55 2 24 (.agg #[.int .i64 0, .string (mkS [])]) [.agg #[.int .i64 (k : Int), .string (mkS p2)]] (by kernel_rfl) (par1_ok ((k : Int), p2)) rfl (by omega) (by simp) (by simp) ?_
    intro g7 u7 l7 e7
    refine G.append 55 2 24 (.agg #[.int .i64 0, .string (mkS [])]) mb _ [parV ((k : Int), p2)] _ g7 0 1 1 (by kernel_rfl) rfl rfl (by omega) hP e7 (par1_ok ((k : Int), p2)) rfl (by omega) (by simp; omega) (by simp; omega) ?_
    intro v8 m8 hA8
    have e8 : (numP F ++ hotL F A i).map parV ++ [parV ((k : Int), p2)] = (numP F ++ hotL F A (i + 1)).map parV := by rw [hs]; simp
    rw [e8] at hA8
    obtain ⟨a8, c8, rfl⟩ := hA8.shape
    rw [List.length_map] at hA8 ⊢
    refine G.add (i : Int) 1 ((i + 1 : Nat) : Int) (by kernel_rfl) (by omega) (by omega) (by omega) ?_
    exact G.back (by kernel_rfl) (hJ (i + 1, (a8, c8)) _ _ _ ⟨by kernel_rfl, by kernel_rfl, by kernel_rfl⟩ (l6.trans l7) ⟨by dsimp only; omega, hA8⟩ (by dsimp only; omega))
   ·rw [if_neg (by simpa using h2)] at hs
    refine G.eqlF (f2 : Int) 2 (by kernel_rfl) (by omega) ?_
    refine G.add (i : Int) 1 ((i + 1 : Nat) : Int) (by kernel_rfl) (by omega) (by omega) (by omega) ?_
    rw [← hs] at hP ⊢
    exact G.back (by kernel_rfl) (hJ (i + 1, (pa, pc)) _ _ _ ⟨by kernel_rfl, by kernel_rfl, by kernel_rfl⟩ l6 ⟨by dsimp only; omega, hP⟩ (by dsimp only; omega))
  ·refine G.geqF p1 0 (by kernel_rfl) h0 ?_
   have hot : isHot F (p1, p2) = false := by
    unfold isHot
    rw [decide_eq_false h0]; rfl
   rw [hot, if_neg (by simp)] at hs
   refine G.add (i : Int) 1 ((i + 1 : Nat) : Int) (by kernel_rfl) (by omega) (by omega) (by omega) ?_
   rw [← hs] at hP ⊢
   exact G.back (by kernel_rfl) (hJ (i + 1, (pa, pc)) _ _ _ ⟨by kernel_rfl, by kernel_rfl, by kernel_rfl⟩ l6 ⟨by dsimp only; omega, hP⟩ (by dsimp only; omega))
 obtain rfl : i = A.length := by omega
 refine G.lssF (A.length : Int) (A.length : Int) (by kernel_rfl) (by omega) ?_
 clear hJ
 have hnd : (numP F ++ hotL F A A.length).Nodup := parsL_nodup (cA.srt.nodup ordP)
 have hmm : ∀ p, p ∈ numP F ++ hotL F A A.length ↔ _ := fun p => mem_parsL (F := F) cA (p := p)
 have hll : (numP F ++ hotL F A A.length).length ≤ 1000000 := by rw [List.length_append]; omega
 generalize numP F ++ hotL F A A.length = L at hP hnd hmm hll
 by_cases h24 : 24 < L.length
 ·refine G.gtrT (L.length : Int) 24 (by kernel_rfl) (by omega) ?_
  refine G.drop PH.mt (by kernel_rfl) (PH.mt_le _) ?_
  exact G.ret (.tuple #[.slice none 0 0, .int .i64 3]) (by kernel_rfl) ⟨rfl, .inl rfl⟩
 ·refine G.gtrF (L.length : Int) 24 (by kernel_rfl) (by omega) ?_
  refine G.callA _ _ (by kernel_rfl) (by kernel_rfl) Tryz.call37 (mt_or m6).symm (apart_mt m6) (sortOwn0 hP hnd hll) ?_
  rintro v7 u7 m7 l7 ⟨rfl, hS⟩ _
  rw [mt_or]
  have hp := sorted_perm (c := cmpP) L
  have hsl : (sorted cmpP L).length = L.length := hp.length_eq
  refine G.give _ _ _ (by kernel_rfl) hS (fun g => .inl rfl) ?_
  intro u8 l8 hL8
  refine G.drop PH.mt (by kernel_rfl) (PH.mt_le _) ?_
  exact G.ret (.tuple #[.slice pa L.length pc, .int .i64 0]) (by kernel_rfl) ⟨rfl, .inr ⟨_, sorted cmpP L, rfl, hL8, by omega, sorted_sort ordP hnd, fun p => hp.mem_iff.trans (hmm p)⟩⟩
end Go.Proofs.YtpdboaedoimahaaGreatDoor
end
section
set_option linter.unusedSectionVars false
set_option linter.unusedVariables false
namespace Go.Proofs.YtpdboaedoimahaaGreatDoor
open Go.RowKit Go.MapKept
end Go.Proofs.YtpdboaedoimahaaGreatDoor
end
section
set_option linter.unusedSectionVars false
set_option linter.unusedVariables false
namespace Go.Proofs.YtpdboaedoimahaaGreatDoor
open Go.RowKit Go.MapKept
theorem prdL_ne {p : Par} : ∀ (L : List LF) (C : CF), (prdL C L).s p ≠ 0 → C.s p ≠ 0 ∨ ∃ q, some (some (p, q)) ∈ L
 | [], C, h => .inl h
 | x :: L, C, h => by
  rcases prdL_ne L (C.mul x.cf) h with h1 | ⟨q, hq⟩
  ·rcases or_of_add (a := x.cf.s p * C.c) (b := C.s p * x.cf.c) h1 with h2 | h2
   ·right
    have h3 := (and_of_mul h2).1
    match x, h3 with
    | none, h3 => exact absurd rfl h3
    | some none, h3 => exact absurd rfl h3
    | some (some (p', q)), h3 =>
     have h4 : (if p = p' then q else 0) ≠ 0 := h3
     by_cases e : p = p'
     ·subst e; exact ⟨q, List.mem_cons_self ..⟩
     ·rw [if_neg e] at h4; exact absurd rfl h4
   ·exact .inl (and_of_mul h2).1
  ·exact .inr ⟨q, List.mem_cons_of_mem _ hq⟩
theorem cfT_ne {F : List Feat} {lab : Int} {ss : List (List UInt8)} {p : Par} (h : (cfT F lab ss).s p ≠ 0) : BelP F lab p ∧ ∃ (a : Nat) (q : Rat), (lifts F lab ss)[a]? = some (some (some (p, q))) ∧ ∀ (i : Nat) (f : Feat), p.1 = (i : Int) → F[i]? = some f → f.2.1 = 2 → q = 1 := by
 rcases prdL_ne _ _ h with h | ⟨q, hq⟩
 ·exact absurd rfl h
 obtain ⟨a, ha, hae⟩ := List.getElem_of_mem hq
 have hla : a < ss.length := by rw [lifts_len] at ha; exact ha
 have e := lifts_at (F := F) (lab := lab) (w := ss[a]) (List.getElem?_eq_getElem hla)
 have e2 : attO F lab a ss[a] = some (some (p, q)) := by
  rw [List.getElem?_eq_getElem ha, hae] at e
  exact (Option.some.inj e).symm
 have e3 : (lifts F lab ss)[a]? = some (some (some (p, q))) := by rw [e, e2]
 generalize ss[a] = w at e2
 by_cases hl : (a : Int) = lab
 ·have e4 : attO F lab a w = labO w := by unfold attO; rw [if_pos hl]
  rw [e4] at e2
  unfold labO at e2
  split at e2
  ·cases e2
  ·simp only [Option.some.injEq, Prod.mk.injEq] at e2
   obtain ⟨rfl, _⟩ := e2
   exact ⟨.inl ⟨rfl, by omega, rfl⟩, a, q, e3, fun i f h1 => by simp only at h1; omega⟩
 ·rcases attO_cases (F := F) (w := w) hl with h1 | ⟨i, f, hf, hfa, h1⟩
  ·rw [h1] at e2; cases e2
  ·rw [h1] at e2
   unfold featO at e2
   by_cases h2 : f.2.1 = 2
   ·rw [if_pos h2] at e2
    simp only [Option.some.injEq, Prod.mk.injEq] at e2
    obtain ⟨rfl, rfl⟩ := e2
    exact ⟨.inr ⟨i, f, rfl, hf, .inl h2⟩, a, _, e3, fun _ _ _ _ _ => rfl⟩
   ·rw [if_neg h2] at e2
    split at e2
    ·split at e2 <;> cases e2
    ·simp only [Option.some.injEq, Prod.mk.injEq] at e2
     obtain ⟨rfl, _⟩ := e2
     refine ⟨.inr ⟨i, f, rfl, hf, .inr rfl⟩, a, q, e3, fun j g h3 h4 h5 => ?_⟩
     simp only at h3
     obtain rfl : i = j := by omega
     rw [hf] at h4; cases h4
     exact absurd h5 h2
theorem sumT_ne {F : List Feat} {lab : Int} {p : Par} : ∀ {L : List WRow}, (sumT F lab L).s p ≠ 0 → ∃ y ∈ L, (cfT F lab y.1).s p ≠ 0 := by
 intro L
 induction L using snoc_ind with
 | h0 => exact fun h => absurd rfl h
 | h1 L y ih =>
  intro h
  rw [sumT_snoc] at h
  rcases or_of_add (a := (sumT F lab L).s p) (b := (cfT F lab y.1).s p * (y.2.1 : Rat)) h with h1 | h1
  ·obtain ⟨z, hz, h2⟩ := ih h1
   exact ⟨z, List.mem_append_left _ hz, h2⟩
  ·exact ⟨y, by simp, (and_of_mul h1).1⟩
theorem hot_pos {T : List (List UInt8 × Nat)} {F : List Feat} {lab : Int} {ss : List (List UInt8)} {p : Par} {i : Nat} {f : Feat} (hF : FeatOK T F lab) (ht : TupOK T ss) (h1 : -1 ≤ lab) (h2 : ∀ l : Nat, lab = (l : Int) → l < ss.length) (hp : p.1 = (i : Int)) (hf : F[i]? = some f) (hk : f.2.1 = 2) : (cfT F lab ss).s p = 0 ∨ (cfT F lab ss).s p = 1 := by
 by_cases h : (cfT F lab ss).s p = 0
 ·exact .inl h
 right
 obtain ⟨_, a, q, ha, hq⟩ := cfT_ne h
 have hq1 := hq i f hp hf hk
 subst hq1
 cases hc : cntB F lab ss with
 | true => exact cfT_at hF ht h1 h2 hc ha
 | false => rw [cfT_no hF ht h1 h2 hc] at h; exact absurd rfl h
theorem sumT_pos {F : List Feat} {lab : Int} {p : Par} : ∀ {L : List WRow}, (∀ y ∈ L, 1 ≤ y.2.1 ∧ ((cfT F lab y.1).s p = 0 ∨ (cfT F lab y.1).s p = 1)) → ∃ k : Nat, (sumT F lab L).s p = (k : Rat) ∧ ((∃ y ∈ L, (cfT F lab y.1).s p = 1) → 0 < k) := by
 intro L
 induction L using snoc_ind with
 | h0 => exact fun _ => ⟨0, rfl, fun ⟨y, hy, _⟩ => by simp at hy⟩
 | h1 L y ih =>
  intro h
  obtain ⟨k, hk, hpos⟩ := ih fun z hz => h z (List.mem_append_left _ hz)
  obtain ⟨hw, hy⟩ := h y (by simp)
  rw [sumT_snoc]
  show ∃ k : Nat, (sumT F lab L).s p + (cfT F lab y.1).s p * (y.2.1 : Rat) = (k : Rat) ∧ _
  rw [hk]
  rcases hy with e | e
  ·refine ⟨k, by rw [e]; grind, fun ⟨z, hz, h1⟩ => hpos ?_⟩
   rcases List.mem_append.1 hz with hz | hz
   ·exact ⟨z, hz, h1⟩
   ·simp only [List.mem_singleton] at hz
    subst hz
    rw [e] at h1; exact absurd h1 (by decide)
  ·exact ⟨k + y.2.1, by rw [e, Rat.natCast_add]; grind, fun _ => by omega⟩
theorem prm_has {u : PH} {T : List (List UInt8 × Nat)} {R : List SRel} {F : List Feat} {lab : Int} {L : List WRow} {y : WRow} {x : Par × Rat} {P : List Par} (ok : SchOK u T R F lab) (hL : ∀ y ∈ L, TupOK T y.1 ∧ 1 ≤ y.2.1) (hy : y ∈ L) (hc : cntB F lab y.1 = true)
  (hP : ∀ p, p ∈ P ↔ (∃ (i : Nat) (f : Feat), p = parI i ∧ F[i]? = some f ∧ f.2.1 = 1) ∨ ((sumT F lab L).s p ≠ 0 ∧ ∃ (i : Nat) (f : Feat), p.1 = (i : Int) ∧ F[i]? = some f ∧ f.2.1 = 2)) (hx : x ∈ vecL F y.1 F.length) : x.1 ∈ P := by
 have hlt : ∀ z ∈ L, ∀ l : Nat, lab = (l : Int) → l < z.1.length := fun z hz l hl => by
  obtain ⟨n, hn⟩ := ok.l2 l hl
  have h1 := (List.getElem?_eq_some_iff.1 hn).1
  have := (hL z hz).1.len
  omega
 obtain ⟨i, f, hi, hf, hv⟩ := mem_vecL.1 hx
 have hlf := lifts_feat (lab := lab) ok.feat (hL y hy).1 hf
 obtain ⟨n, kd, hT, hkind, hne⟩ := ok.feat.ok f (List.mem_of_getElem? hf)
 unfold vecO at hv
 unfold featO at hlf
 by_cases h2 : f.2.1 = 2
 ·rw [if_pos h2] at hv hlf
  cases hv
  refine (hP _).2 (.inr ⟨?_, i, f, rfl, hf, h2⟩)
  have hs := cfT_at ok.feat (hL y hy).1 ok.l1 (hlt y hy) hc hlf
  obtain ⟨k, hk, hpos⟩ := sumT_pos (F := F) (lab := lab) (p := ((i : Int), y.1.getD f.1 [])) (L := L) fun z hz => ⟨(hL z hz).2, hot_pos ok.feat (hL z hz).1 ok.l1 (hlt z hz) rfl hf h2⟩
  have h0 := hpos ⟨y, hy, hs⟩
  show (sumT F lab L).s ((i : Int), y.1.getD f.1 []) ≠ 0
  rw [hk]
  intro e
  have : k = 0 := by exact_mod_cast e
  omega
 ·rw [if_neg h2] at hv
  split at hv
  ·cases hv
  ·cases hv
   refine (hP _).2 (.inl ⟨i, f, rfl, hf, ?_⟩)
   rcases hkind with ⟨k1, _⟩ | ⟨k1, _⟩
   ·exact k1
   ·exact absurd k1 h2
theorem den_count {P : List Par} {V : List (Par × Rat)} (hP : P.Nodup) (hV : (V.map (·.1)).Nodup) (hin : ∀ x ∈ V, x.1 ∈ P) (h0 : ∀ x ∈ V, x.2 ≠ 0) : (P.filter fun p => decide (assocQ p V ≠ 0)).length = V.length := by
 refine Nat.le_antisymm ?_ ?_
 ·have := len_of_sub (fun x : Par => x) (L := P.filter fun p => decide (assocQ p V ≠ 0)) (l := V.map (·.1)) (by rw [List.map_id']; exact hP.filter _) (fun p hp => by
   have h1 := (List.mem_filter.1 hp).2
   rw [decide_eq_true_eq] at h1
   exact Classical.byContradiction fun hh => h1 (assocQ_not hh))
  rwa [List.length_map] at this
 ·have := len_of_sub (fun x : Par => x) (L := V.map (·.1)) (l := P.filter fun p => decide (assocQ p V ≠ 0)) (by rw [List.map_id']; exact hV) (fun p hp => by
   obtain ⟨x, hx, rfl⟩ := List.mem_map.1 hp
   refine List.mem_filter.2 ⟨hin x hx, ?_⟩
   rw [decide_eq_true_eq, assocQ_mem hV (q := x.2) (by exact hx)]
   exact h0 x hx)
  rwa [List.length_map] at this
end Go.Proofs.YtpdboaedoimahaaGreatDoor
end
section
set_option linter.unusedSectionVars false
set_option linter.unusedVariables false
namespace Go.Proofs.YtpdboaedoimahaaGreatDoor
open Go.RowKit Go.MapKept
theorem assocQ_take {V : List (Par × Rat)} (hV : (V.map (·.1)).Nodup) {j : Nat} {x : Par × Rat} (hj : V[j]? = some x) (p : Par) : assocQ p (V.take (j + 1)) = if x.1 = p then x.2 else assocQ p (V.take j) := by
 have e : V.take (j + 1) = V.take j ++ [x] := by rw [List.take_add_one, hj]; rfl
 have hnew : x.1 ∉ (V.take j).map (·.1) := by
  intro hm
  obtain ⟨y, hy, hye⟩ := List.mem_map.1 hm
  obtain ⟨i, hi, rfl⟩ := List.getElem_of_mem hy
  rw [List.length_take] at hi
  have := nodup_at hV (i := i) (j := j) (x := x.1) (by rw [List.getElem?_map, List.getElem?_eq_getElem (by omega)]; simp only [Option.map_some]; rw [← hye, List.getElem_take]) (by rw [List.getElem?_map, hj]; rfl)
  omega
 rw [e, assocQ_put hnew]
 by_cases h : p = x.1
 ·rw [if_pos h, if_pos h.symm]
 ·rw [if_neg h, if_neg (fun e => h e.symm)]
set_option maxHeartbeats 16000000 in
theorem encodeDense0 {u : PH} {v : Value} {ts : List Int} (hv : ListP u v 1 (intsZ ts)) (hlo : ∀ t ∈ ts, -9223372036854775808 ≤ t) (hhi : ∀ t ∈ ts, t ≤ 9223372036854775807) :
  Fn0 Tryz.prog 3 [v] u fun v' _ => v' = .bool true := by
 obtain ⟨a, c, rfl⟩ := hv.opn
 rw [intsZ_length] at hv ⊢
 refine Fn0.of Tryz.func3 (by kernel_rfl) (by kernel_rfl) ?_
 by_cases h400 : 400 < ts.length
 ·refine G.gtrT (ts.length : Int) 400 (by kernel_rfl) (by omega) ?_
  refine G.call0 _ _ (by kernel_rfl) Tryz.call6 sane12 ?_
  rintro v1 u1 l1 rfl
  exact G.ret (.bool true) (by kernel_rfl) ⟨rfl, rfl⟩
 refine G.gtrF (ts.length : Int) 400 (by kernel_rfl) (by omega) ?_
 refine G.callO _ _ (by kernel_rfl) Tryz.call7 (srcNew0 hv (by omega) hlo hhi) ?_
 rintro v1 u1 m1 l1 ⟨s, rfl, rfl, hs⟩ _
 rw [mt_or]
 refine G.callA _ _ (by kernel_rfl) (by kernel_rfl) Tryz.call8 (mt_or _).symm (apart_mt _) (srcSchema0 6 (by omega) (by omega) hs (Nat.zero_le _)) ?_
 rintro v2 u2 m2 l2 ⟨T, R, F, lab, k2, hX, ok, hT6, hk2, rfl⟩ _
 rw [mt_or]
 obtain ⟨xa, xc, xb, xd, xe, xf, rfl, hTL, hRL, hFL⟩ := id hX
 refine G.callA _ _ (by kernel_rfl) (by kernel_rfl) Tryz.call9 (mt_or _).symm (apart_mt _) (srcTuples0 (most := 5) (hs.mono l2) hk2 hX ok (by omega)) ?_
 rintro v3 u3 m3 l3 ⟨L, k3, hL, hL5, hW, hk3, rfl⟩ _
 rw [mt_or]
 obtain ⟨la, lc, rfl⟩ := hL.opn
 rw [List.length_map] at hL ⊢
 refine G.drop PH.mt (by kernel_rfl) (PH.mt_le _) ?_
 have hX3 := hX.mono l3
 have ok3 := ok.mono l3
 have hWT : ∀ y ∈ L, TupOK T y.1 ∧ 1 ≤ y.2.1 := fun y hy => by obtain ⟨_, q1, q2, _⟩ := hW y hy; exact ⟨q1, q2⟩
 have hWT7 : ∀ y ∈ L, TupOK T y.1 ∧ y.2.1 ≤ 7 := fun y hy => by obtain ⟨_, q1, _, q2⟩ := hW y hy; exact ⟨q1, q2⟩
 refine G.call0 _ _ (by kernel_rfl) Tryz.call10 (added0 hX3 ok3 hT6 hL hW hL5) ?_
 rintro v4 u4 l4 ⟨x4, rfl, k4⟩
 obtain ⟨e1, f1, g1, e2, f2, g2, rfl⟩ := k4.opn
 obtain ⟨s1, s2⟩ := sumT_ok ok3 hWT7
 have sC : CFS (sumT F lab L) := s1.cfs (by omega) (by
  have hp6 := powT6 hT6
  have : L.length ≤ 100 := by omega
  have := Nat.mul_le_mul_right (46656 ^ T.length * 7) this
  omega)
 have hbel : ∀ p, (sumT F lab L).s p ≠ 0 → BelP F lab p := fun p hp => by
  obtain ⟨y, hy, hne⟩ := sumT_ne hp
  exact (cfT_ne hne).1
 refine G.call0 _ _ (by kernel_rfl) Tryz.call11 (encParams0 (hX3.mono l4) (ok3.mono l4) k4 sC s2 (by omega) hbel) ?_
 rintro v5 u5 l5 (rfl | ⟨ps, P, rfl, hP, hP24, hsrt, hmem⟩)
 ·refine G.neqT 3 0 (by kernel_rfl) (by omega) ?_
  refine G.eqlT 3 3 (by kernel_rfl) rfl ?_
  refine G.call0 _ _ (by kernel_rfl) Tryz.call6 sane12 ?_
  rintro v6 u6 l6 rfl
  exact G.ret (.bool true) (by kernel_rfl) ⟨rfl, rfl⟩
 obtain ⟨pa, pc, rfl⟩ := hP.opn
 rw [List.length_map] at hP ⊢
 refine G.neqF 0 0 (by kernel_rfl) (by omega) ?_
 have le5 := l4.trans l5
 have hPn : P.Nodup := hsrt.nodup ordP
 have hin : ∀ y ∈ L, cntB F lab y.1 = true → ∀ x ∈ vecL F y.1 F.length, x.1 ∈ P := fun y hy hc x hx => prm_has ok3 hWT hy hc hmem hx
 clear hmem hbel sC s1 s2 k4
 refine G.loop (ι := Nat) (fun i => [(4, .p 4002 0), (8, .v (.slice pa P.length pc)), (56, .v (.slice la L.length lc)), (57, .v (.int .i64 (L.length : Int))), (58, .v (.int .i64 (i : Int)))])
  (fun _ => [(4002, ⟨30, [.v (.slice xa T.length xc), .v (.slice xb R.length xd), .v (.slice xe F.length xf), .v (.int .i64 lab)]⟩)])
  (fun i u' m' => i ≤ L.length ∧ m' = PH.mt) (fun i => L.length - i) 0 (by kernel_rfl) (fun _ => by kernel_rfl) ⟨by kernel_rfl, by kernel_rfl, by kernel_rfl⟩ ⟨by omega, rfl⟩ ?_
 rintro J i hJ u6 m6 l6 ⟨hi, rfl⟩
 have le6 := le5.trans l6
 by_cases hlt : i < L.length
 case neg =>
  obtain rfl : i = L.length := by omega
  refine G.lssF (L.length : Int) (L.length : Int) (by kernel_rfl) (by omega) ?_
  refine G.call0 _ _ (by kernel_rfl) Tryz.call6 sane12 ?_
  rintro v6 u6 l6 rfl
  exact G.ret (.bool true) (by kernel_rfl) ⟨rfl, rfl⟩
 refine G.lssT (i : Int) (L.length : Int) (by kernel_rfl) (by omega) ?_
 obtain ⟨y, hLi⟩ : ∃ y, L[i]? = some y := ⟨_, List.getElem?_eq_getElem hlt⟩
 have hyL := List.mem_of_getElem? hLi
 obtain ⟨hS, hT, hw1, hw2⟩ := hW y hyL
 have hiny := hin y hyL
 obtain ⟨ba, oa, rfl, ea⟩ := ListP.at' (hL.mono le6) (j := i) (e := wrowV y) (by simp [hLi])
 obtain ⟨ss, w, ya, yc⟩ := y
 simp only at hS hT hw1 hw2 hiny
 have hTu : TupP u3 (.agg #[.slice xa T.length xc, .slice xb R.length xd, .slice xe F.length xf, .int .i64 lab]) (.slice ya ss.length yc) T R F lab ss := ⟨hX3, ok3, hS, hT⟩
 refine G.addr ba oa L.length lc i 2 (by kernel_rfl) hlt ?_
 refine G.loadU (some 2) ba (oa + i * 2) (.agg #[.slice ya ss.length yc, .int .i64 (w : Int)]) (by kernel_rfl) (by kernel_rfl) ea ?_
 refine G.call0 _ _ (by kernel_rfl) Tryz.call12 (encCounts0 (hTu.mono le6)) ?_
 rintro v7 u7 l7 rfl
 cases hc : cntB F lab ss with
 | false =>
  refine G.add (i : Int) 1 ((i + 1 : Nat) : Int) (by kernel_rfl) (by omega) (by omega) (by omega) ?_
  exact G.back (by kernel_rfl) (hJ (i + 1) _ _ _ ⟨by kernel_rfl, by kernel_rfl, by kernel_rfl⟩ (l6.trans l7) ⟨by omega, rfl⟩ (by omega))
 | true =>
 have le7 := le6.trans l7
 have hinV := hiny hc
 refine G.call0 _ _ (by kernel_rfl) Tryz.call13 (encDense0 (hTu.mono le7) (hP.mono (l6.trans l7)) hsrt hinV (by omega)) ?_
 rintro v8 u8 l8 ⟨dv, rfl, hD⟩
 obtain ⟨da, dc, rfl⟩ := hD.opn
 rw [List.length_map] at hD ⊢
 have le8 := le7.trans l8
 refine G.call0 _ _ (by kernel_rfl) Tryz.call14 (encVector0 (hTu.mono le8)) ?_
 rintro v9 u9 l9 ⟨lv, rfl, hV⟩
 obtain ⟨va, vc, rfl⟩ := hV.opn
 rw [List.length_map] at hV ⊢
 have le9 := le8.trans l9
 have hVn : ((vecL F ss F.length).map (·.1)).Nodup := vecL_nodup F ss F.length (Nat.le_refl _)
 have hV0 : ∀ x ∈ vecL F ss F.length, x.2 ≠ 0 := fun x hx => (vecL_lift (lab := lab) ok.feat hT hx).1
 have hVl := vecL_len F ss F.length
 have hf8 := ok.f2
 have hcount := den_count hPn hVn hinV hV0
 generalize hVV : vecL F ss F.length = V at hD hV hVn hV0 hVl hcount
 have hDl : (denL P V).length = P.length + 1 := denL_len P V
 rw [hDl] at hD ⊢
 refine G.neqF 0 0 (by kernel_rfl) (by omega) ?_
 refine G.neqF 0 0 (by kernel_rfl) (by omega) ?_
 refine G.add (P.length : Int) 1 ((P.length + 1 : Nat) : Int) (by kernel_rfl) (by omega) (by omega) (by omega) ?_
 refine G.neqF ((P.length + 1 : Nat) : Int) ((P.length + 1 : Nat) : Int) (by kernel_rfl) (by omega) ?_
 obtain ⟨db, dof, rfl, e0⟩ := ListP.at' (hD.mono l9) (j := 0) (e := .string (mkS [49])) rfl
 refine G.addr db dof (P.length + 1) dc 0 1 (by kernel_rfl) (by omega) ?_
 refine G.loadU none db (dof + 0 * 1) (.string (mkS [49])) (by kernel_rfl) (by kernel_rfl) e0 ?_
 refine G.neSF [49] [49] (by kernel_rfl) rfl ?_
 refine G.loop (ι := Nat) (fun n => [(4, .p 4002 0), (8, .v (.slice pa P.length pc)), (12, .v (.slice (some ⟨db, dof, none⟩) (P.length + 1) dc)), (14, .v (.slice va V.length vc)), (16, .v (.int .i64 (((P.take n).filter fun p => decide (assocQ p V ≠ 0)).length : Int))), (56, .v (.slice (some ⟨ba, oa, none⟩) L.length lc)), (57, .v (.int .i64 (L.length : Int))), (58, .v (.int .i64 (i : Int))), (102, .v (.slice pa P.length pc)), (103, .v (.int .i64 (P.length : Int))), (104, .v (.int .i64 (n : Int)))])
  (fun _ => [(4002, ⟨30, [.v (.slice xa T.length xc), .v (.slice xb R.length xd), .v (.slice xe F.length xf), .v (.int .i64 lab)]⟩)])
  (fun n u' m' => n ≤ P.length ∧ m' = PH.mt) (fun n => P.length - n) 0 (by kernel_rfl) (fun _ => by kernel_rfl) ⟨by kernel_rfl, by kernel_rfl, by kernel_rfl⟩ ⟨by omega, rfl⟩ ?_
 rintro J2 n hJ2 u10 m10 l10 ⟨hn, rfl⟩
 have le10 := (((l6.trans l7).trans l8).trans l9).trans l10
 by_cases hnl : n < P.length
 case neg =>
  obtain rfl : n = P.length := by omega
  refine G.lssF (P.length : Int) (P.length : Int) (by kernel_rfl) (by omega) ?_
  rw [List.take_length, hcount]
  refine G.neqF (V.length : Int) (V.length : Int) (by kernel_rfl) (by omega) ?_
  refine G.add (i : Int) 1 ((i + 1 : Nat) : Int) (by kernel_rfl) (by omega) (by omega) (by omega) ?_
  exact G.back (by kernel_rfl) (hJ (i + 1) _ _ _ ⟨by kernel_rfl, by kernel_rfl, by kernel_rfl⟩ le10 ⟨by omega, rfl⟩ (by omega))
 refine G.lssT (n : Int) (P.length : Int) (by kernel_rfl) (by omega) ?_
 obtain ⟨p, hPi⟩ : ∃ p, P[n]? = some p := ⟨_, List.getElem?_eq_getElem hnl⟩
 obtain ⟨pb, po, rfl, ep⟩ := ListP.at' (hP.mono le10) (j := n) (e := parV p) (by simp [hPi])
 have htk : P.take (n + 1) = P.take n ++ [p] := by rw [List.take_add_one, hPi]; rfl
 refine G.addr pb po P.length pc n 2 (by kernel_rfl) hnl ?_
 refine G.loadU (some 2) pb (po + n * 2) (.agg #[.int .i64 p.1, .string (mkS p.2)]) (by kernel_rfl) (by kernel_rfl) ep ?_
 have hcl : ((P.take n).filter fun p => decide (assocQ p V ≠ 0)).length ≤ 24 := by
  refine Nat.le_trans (List.length_filter_le _ _) ?_
  rw [List.length_take]; omega
 have hcs : ((P.take (n + 1)).filter fun p => decide (assocQ p V ≠ 0)).length = ((P.take n).filter fun p => decide (assocQ p V ≠ 0)).length + (if assocQ p V ≠ 0 then 1 else 0) := by
  rw [htk, List.filter_append, List.length_append]
  by_cases h : assocQ p V ≠ 0
  ·rw [if_pos h]; simp [h]
  ·rw [if_neg h]; simp [h]
 generalize hck : ((P.take n).filter fun p => decide (assocQ p V ≠ 0)).length = cn at hcl hcs
 refine G.loop (ι := Nat) (fun j => [(4, .p 4002 0), (8, .v (.slice (some ⟨pb, po, none⟩) P.length pc)), (12, .v (.slice (some ⟨db, dof, none⟩) (P.length + 1) dc)), (14, .v (.slice va V.length vc)), (16, .v (.int .i64 (cn : Int))), (17, .v (.int .i64 (n : Int))), (18, .p 21003 0), (19, .v (.string (mkS (ratT (assocQ p (V.take j)))))), (56, .v (.slice (some ⟨ba, oa, none⟩) L.length lc)), (57, .v (.int .i64 (L.length : Int))), (58, .v (.int .i64 (i : Int))), (102, .v (.slice (some ⟨pb, po, none⟩) P.length pc)), (103, .v (.int .i64 (P.length : Int))), (104, .v (.int .i64 (n : Int))), (109, .v (.slice va V.length vc)), (110, .v (.int .i64 (V.length : Int))), (111, .v (.int .i64 (j : Int)))])
  (fun _ => [(4002, ⟨30, [.v (.slice xa T.length xc), .v (.slice xb R.length xd), .v (.slice xe F.length xf), .v (.int .i64 lab)]⟩), (21003, ⟨55, [.v (.int .i64 p.1), .v (.string (mkS p.2))]⟩)])
  (fun j u' m' => j ≤ V.length ∧ m' = PH.mt) (fun j => V.length - j) 0 (by kernel_rfl) (fun _ => by kernel_rfl) ⟨by kernel_rfl, by kernel_rfl, by kernel_rfl⟩ ⟨by omega, rfl⟩ ?_
 rintro J3 j hJ3 u11 m11 l11 ⟨hj, rfl⟩
 by_cases hjl : j < V.length
 ·refine G.lssT (j : Int) (V.length : Int) (by kernel_rfl) (by omega) ?_
  obtain ⟨x, hVj⟩ : ∃ x, V[j]? = some x := ⟨_, List.getElem?_eq_getElem hjl⟩
  have hst := assocQ_take hVn hVj p
  obtain ⟨vb, vo, rfl, ev⟩ := ListP.at' (hV.mono (l10.trans l11)) (j := j) (e := termV x) (by simp [hVj])
  refine G.addr vb vo V.length vc j 3 (by kernel_rfl) hjl ?_
  refine G.loadU (some 3) vb (vo + j * 3) (.agg #[.int .i64 x.1.1, .string (mkS x.1.2), .string (mkS (ratT x.2))]) (by kernel_rfl) (by kernel_rfl) ev ?_
  by_cases he : x.1 = p
  ·rw [if_pos he] at hst
   refine G.eqAgg 55 #[.int .i64 x.1.1, .string (mkS x.1.2)] #[.int .i64 p.1, .string (mkS p.2)] true (by kernel_rfl) (by kernel_rfl) (by kernel_rfl) (fun w => by rw [← decide_eq_true he]; exact keyPar.eq x.1 p w) ?_
   refine G.add (j : Int) 1 ((j + 1 : Nat) : Int) (by kernel_rfl) (by omega) (by omega) (by omega) ?_
   rw [← hst]
   exact G.back (by kernel_rfl) (hJ3 (j + 1) _ _ _ ⟨by kernel_rfl, by kernel_rfl, by kernel_rfl⟩ l11 ⟨by omega, rfl⟩ (by omega))
  ·rw [if_neg he] at hst
   refine G.eqAgg 55 #[.int .i64 x.1.1, .string (mkS x.1.2)] #[.int .i64 p.1, .string (mkS p.2)] false (by kernel_rfl) (by kernel_rfl) (by kernel_rfl) (fun w => by rw [← decide_eq_false he]; exact keyPar.eq x.1 p w) ?_
   refine G.add (j : Int) 1 ((j + 1 : Nat) : Int) (by kernel_rfl) (by omega) (by omega) (by omega) ?_
   rw [← hst]
   exact G.back (by kernel_rfl) (hJ3 (j + 1) _ _ _ ⟨by kernel_rfl, by kernel_rfl, by kernel_rfl⟩ l11 ⟨by omega, rfl⟩ (by omega))
 ·obtain rfl : j = V.length := by omega
  refine G.lssF (V.length : Int) (V.length : Int) (by kernel_rfl) (by omega) ?_
  rw [List.take_length]
  have hDn : ((denL P V).map nmV)[n + 1]? = some (.string (mkS (ratT (assocQ p V)))) := by
   unfold denL
   rw [List.getElem?_map, List.getElem?_cons_succ, List.getElem?_map, hPi]; rfl
  obtain ⟨db2, dof2, e1, ed⟩ := ListP.at' (hD.mono ((l9.trans l10).trans l11)) (j := n + 1) (e := .string (mkS (ratT (assocQ p V)))) hDn
  cases e1
  refine G.add (n : Int) 1 ((n + 1 : Nat) : Int) (by kernel_rfl) (by omega) (by omega) (by omega) ?_
  refine G.addr db dof (P.length + 1) dc (n + 1) 1 (by kernel_rfl) (by omega) ?_
  refine G.loadU none db (dof + (n + 1) * 1) (.string (mkS (ratT (assocQ p V)))) (by kernel_rfl) (by kernel_rfl) ed ?_
  refine G.neSF (ratT (assocQ p V)) (ratT (assocQ p V)) (by kernel_rfl) rfl ?_
  have le11 := le10.trans l11
  by_cases h0 : assocQ p V = 0
  ·rw [if_neg (fun h => h h0)] at hcs
   refine G.neSF (ratT (assocQ p V)) [48] (by kernel_rfl) (by rw [h0]; exact ratT_zero) ?_
   refine G.add (n : Int) 1 ((n + 1 : Nat) : Int) (by kernel_rfl) (by omega) (by omega) (by omega) ?_
   rw [show cn = ((P.take (n + 1)).filter fun p => decide (assocQ p V ≠ 0)).length by omega]
   exact G.back (by kernel_rfl) (hJ2 (n + 1) _ _ _ ⟨by kernel_rfl, by kernel_rfl, by kernel_rfl⟩ (l10.trans l11) ⟨by omega, rfl⟩ (by omega))
  ·rw [if_pos h0] at hcs
   refine G.neST (ratT (assocQ p V)) [48] (by kernel_rfl) (ratT_ne0 h0) ?_
   refine G.add (cn : Int) 1 ((((P.take (n + 1)).filter fun p => decide (assocQ p V ≠ 0)).length : Nat) : Int) (by kernel_rfl) (by omega) (by omega) (by omega) ?_
   refine G.add (n : Int) 1 ((n + 1 : Nat) : Int) (by kernel_rfl) (by omega) (by omega) (by omega) ?_
   exact G.back (by kernel_rfl) (hJ2 (n + 1) _ _ _ ⟨by kernel_rfl, by kernel_rfl, by kernel_rfl⟩ (l10.trans l11) ⟨by omega, rfl⟩ (by omega))
end Go.Proofs.YtpdboaedoimahaaGreatDoor
end
