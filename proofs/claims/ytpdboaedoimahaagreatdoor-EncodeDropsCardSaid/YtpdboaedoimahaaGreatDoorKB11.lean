/- Joined out of parts of one proof by a program: contracts of the functions that the statement reaches, and the plain facts behind them. -/
import Derived.Test.YtpdboaedoimahaaGreatDoorKB10
import Derived.ChangeKeysEq
set_option linter.unusedVariables false
set_option linter.unusedSimpArgs false
set_option linter.unusedSectionVars false
section
set_option linter.unusedSectionVars false
set_option linter.unusedVariables false
namespace Go.Proofs.YtpdboaedoimahaaGreatDoor
open Go.RowKit Go.MapKept
def dflt (k : Nat) : List UInt8 := if k = 1 then [49] else if k = 2 then [49, 47, 50] else [114, 101, 100]
theorem dflt_ne (k : Nat) : dflt k ≠ [] := by unfold dflt; split <;> (try split) <;> simp
theorem dflt_ok {k : Nat} (h1 : 1 ≤ k) (h3 : k ≤ 3) : ValOK k (dflt k) := by
  unfold dflt
  rcases (by omega : k = 1 ∨ k = 2 ∨ k = 3) with rfl | rfl | rfl
  · exact .inr (.inr (.inl ⟨rfl, 1, by decide, by decide +kernel⟩))
  · exact .inr (.inr (.inr ⟨rfl, (1 : Rat) / 2, ⟨by decide +kernel, by decide +kernel⟩, by decide +kernel⟩))
  · exact .inr (.inl ⟨rfl, by decide +kernel⟩)
def fil (T : List (List UInt8 × Nat)) (ss : List (List UInt8)) (n : Nat) : List (List UInt8) := ss.mapIdx fun j w => if j < n ∧ w = [] then dflt (T.getD j ([], 0)).2 else w
theorem fil_len {T : List (List UInt8 × Nat)} {ss : List (List UInt8)} {n : Nat} : (fil T ss n).length = ss.length := by unfold fil; simp
theorem fil_zero {T : List (List UInt8 × Nat)} {ss : List (List UInt8)} : fil T ss 0 = ss := by
  unfold fil
  refine List.ext_getElem? fun j => ?_
  rw [List.getElem?_mapIdx]
  cases ss[j]? with
  | none => rfl
  | some w => simp
theorem fil_at {T : List (List UInt8 × Nat)} {ss : List (List UInt8)} {n j : Nat} (h : j < ss.length) : (fil T ss n)[j]? = some (if j < n ∧ ss.getD j [] = [] then dflt (T.getD j ([], 0)).2 else ss.getD j []) := by
  unfold fil
  rw [List.getElem?_mapIdx, List.getElem?_eq_getElem h]
  simp [List.getD_eq_getElem?_getD, List.getElem?_eq_getElem h]
theorem fil_succ {T : List (List UInt8 × Nat)} {ss : List (List UInt8)} {n : Nat} (h : n < ss.length) : fil T ss (n + 1) = if ss.getD n [] = [] then (fil T ss n).set n (dflt (T.getD n ([], 0)).2) else fil T ss n := by
  refine List.ext_getElem? fun j => ?_
  by_cases he : ss.getD n [] = []
  · rw [if_pos he]
    by_cases hj : j < ss.length
    · rw [fil_at hj, List.getElem?_set]
      by_cases e : n = j
      · subst e
        rw [if_pos rfl, if_pos ⟨by omega, he⟩, if_pos (by rw [fil_len]; exact h)]
      · rw [if_neg e, fil_at hj]
        by_cases h3 : ss.getD j [] = []
        · by_cases h2 : j < n
          · rw [if_pos ⟨by omega, h3⟩, if_pos ⟨h2, h3⟩]
          · rw [if_neg (by omega), if_neg (by omega)]
        · rw [if_neg (fun x => h3 x.2), if_neg (fun x => h3 x.2)]
    · rw [List.getElem?_eq_none (by rw [fil_len]; omega), List.getElem?_eq_none (by rw [List.length_set, fil_len]; omega)]
  · rw [if_neg he]
    by_cases hj : j < ss.length
    · rw [fil_at hj, fil_at hj]
      by_cases h3 : ss.getD j [] = []
      · have hne : j ≠ n := fun e => by subst e; exact he h3
        by_cases h2 : j < n
        · rw [if_pos ⟨by omega, h3⟩, if_pos ⟨h2, h3⟩]
        · rw [if_neg (by omega), if_neg (by omega)]
      · rw [if_neg (fun x => h3 x.2), if_neg (fun x => h3 x.2)]
    · rw [List.getElem?_eq_none (by rw [fil_len]; omega), List.getElem?_eq_none (by rw [fil_len]; omega)]
theorem fil_ne {T : List (List UInt8 × Nat)} {ss : List (List UInt8)} {j : Nat} (h : j < ss.length) : (fil T ss ss.length).getD j [] ≠ [] := by
  rw [List.getD_eq_getElem?_getD, fil_at h]
  simp only [Option.getD_some]
  split
  · exact dflt_ne _
  · rename_i h2; exact fun e => h2 ⟨h, e⟩
theorem fil_ok {T : List (List UInt8 × Nat)} {ss : List (List UInt8)} (hT : TupOK T ss) (hk : ∀ a ∈ T, 1 ≤ a.2 ∧ a.2 ≤ 3) (n : Nat) : TupOK T (fil T ss n) := by
  refine ⟨by rw [fil_len]; exact hT.len, fun i x t hx ht => ?_⟩
  have hi : i < ss.length := by
    obtain ⟨h1, _⟩ := List.getElem?_eq_some_iff.1 ht
    rw [fil_len] at h1; exact h1
  rw [fil_at hi] at ht
  cases ht
  have hxd : T.getD i ([], 0) = x := by rw [List.getD_eq_getElem?_getD, hx]; rfl
  obtain ⟨h1, h3⟩ := hk x (List.mem_of_getElem? hx)
  split
  · rw [hxd]; exact dflt_ok h1 h3
  · refine hT.val i x _ hx ?_
    simp [List.getD_eq_getElem?_getD, List.getElem?_eq_getElem hi]
theorem set_ok {T : List (List UInt8 × Nat)} {ss : List (List UInt8)} (hT : TupOK T ss) (i : Nat) : TupOK T (ss.set i []) := by
  refine ⟨by rw [List.length_set]; exact hT.len, fun j x t hx ht => ?_⟩
  rw [List.getElem?_set] at ht
  split at ht
  · split at ht
    · cases ht; exact .inl rfl
    · cases ht
  · exact hT.val j x t hx ht
def hotI (F : List Feat) (i : Nat) : Nat → Int
  | 0 => -1
  | n + 1 => match F[n]? with
    | some f => if f.1 = i ∧ f.2.1 = 2 then (n : Int) else hotI F i n
    | none => hotI F i n
theorem hotI_at (F : List Feat) (i : Nat) : ∀ n, 0 ≤ hotI F i n → ∃ (k : Nat) (f : Feat), hotI F i n = (k : Int) ∧ F[k]? = some f ∧ f.1 = i ∧ f.2.1 = 2
  | 0, h => by unfold hotI at h; omega
  | n + 1, h => by
    unfold hotI at h ⊢
    split at h
    · rename_i f hf
      split at h
      · rename_i hc
        rw [if_pos hc]
        exact ⟨n, f, rfl, hf, hc.1, hc.2⟩
      · rename_i hc
        rw [if_neg hc]
        exact hotI_at F i n h
    · exact hotI_at F i n h
end Go.Proofs.YtpdboaedoimahaaGreatDoor
end
section
set_option linter.unusedSectionVars false
set_option linter.unusedVariables false
namespace Go.Proofs.YtpdboaedoimahaaGreatDoor
open Go.RowKit Go.MapKept
set_option maxHeartbeats 1000000 in
theorem srcTupleM0 {u : PH} {s : Src} {ts : List Int} {k : Nat} {v w x y : Value} {T : List (List UInt8 × Nat)} (h : SrcOK u s ts) (hk : k ≤ s.n) (hT : ListP u v 2 (T.map attV)) (hl : T.length ≤ 1000) (hkd : ∀ a ∈ T, 1 ≤ a.2 ∧ a.2 ≤ 3) (hw : ∃ a n c, w = .slice a n c) (hx : ∃ a n c, x = .slice a n c) (hy : ∃ z : Int, y = .int .i64 z) :
    Contract Tryz.prog 15 [s.ptr, .agg #[v, w, x, y]] u (s.M k) fun r u' m' => ∃ (ss : List (List UInt8)) (k' : Nat) (a : Option Addr) (c : Nat), r = .slice a ss.length c ∧ ss.length = T.length ∧ (∀ (i : Nat) (x : List UInt8 × Nat) (t : List UInt8), T[i]? = some x → ss[i]? = some t → ValOK x.2 t) ∧ k' ≤ s.n ∧ Bag m' [s.arr k', nArr a c ss] := by
  obtain ⟨a, c, rfl⟩ := hT.opn
  obtain ⟨wa, wn, wc, rfl⟩ := hw
  obtain ⟨xa, xn, xc, rfl⟩ := hx
  obtain ⟨z, rfl⟩ := hy
  rw [List.length_map] at hT ⊢
  refine Contract.of Tryz.func15 (by kernel_rfl) (by kernel_rfl) ?_
  refine G.loop (ι := Nat × Nat × List (List UInt8) × (Option Addr × Nat)) (fun i => [(0, .v s.ptr), (5, .v (.slice i.2.2.2.1 i.2.2.1.length i.2.2.2.2)), (9, .v (.slice a T.length c)), (10, .v (.int .i64 (T.length : Int))), (11, .v (.int .i64 (i.1 : Int)))]) (fun _ => [])
    (fun i u' m' => i.1 ≤ T.length ∧ i.2.1 ≤ s.n ∧ i.2.2.1.length = i.1 ∧ (∀ (j : Nat) (x : List UInt8 × Nat) (t : List UInt8), T[j]? = some x → i.2.2.1[j]? = some t → ValOK x.2 t) ∧ Bag m' [s.arr i.2.1, nArr i.2.2.2.1 i.2.2.2.2 i.2.2.1])
    (fun i => T.length - i.1) (0, k, [], (none, 0)) (by kernel_rfl) (fun _ => by kernel_rfl) ⟨by kernel_rfl, by kernel_rfl, by kernel_rfl⟩
    ⟨Nat.zero_le _, hk, rfl, fun j x t _ ht => by simp at ht, s.bag0 k ⟨PH.mt, ArrAt.nil _ _ _, trivial⟩⟩ ?_
  rintro J ⟨i, k1, ss, ⟨na, nc⟩⟩ hJ u1 m1 l1 ⟨hi, hk1, hsl, hss, hbag⟩
  simp only at hi hk1 hsl hss hbag hJ
  obtain ⟨m0, hsrc, hL⟩ := hbag
  obtain ⟨rfl, hg0⟩ := Src.split hsrc
  by_cases hlt : i < T.length
  · refine G.lssT (i : Int) (T.length : Int) (by kernel_rfl) (by omega) ?_
    have hTi : T[i]? = some T[i] := List.getElem?_eq_getElem hlt
    obtain ⟨hk1', hk3'⟩ := hkd T[i] (List.getElem_mem hlt)
    obtain ⟨ba, oa, rfl, ea⟩ := ListP.at' (hT.mono l1) (j := i) (e := attV T[i]) (by simp [hTi])
    generalize T[i] = q at ea hTi hk1' hk3'
    refine G.addr ba oa T.length c i 2 (by kernel_rfl) hlt ?_
    refine G.loadU (some 2) ba (oa + i * 2) (.agg #[.string (mkS q.1), .int .i64 (q.2 : Int)]) (by kernel_rfl) (by kernel_rfl) ea ?_
    refine G.callA _ _ (by kernel_rfl) (by kernel_rfl) Tryz.call46 rfl (Src.apart hg0) (srcValue0 (x := q) (h.mono l1) hk1 hk1' hk3') ?_
    rintro v2 u2 m2 l2 ⟨t, k2, rfl, hv, hk2, rfl⟩ _
    refine G.buildU 9 1 16 (.string (mkS [])) [.string (mkS t)] (by kernel_rfl) (nmV_ok [t]) rfl (by omega) (by simp) (by simp) ?_
    intro g3 u3 l3 e3
    have hbag2 : Bag (m0.or (s.M k2)) [s.arr k2, nArr na nc ss] := ⟨m0, Src.at hg0, hL⟩
    obtain ⟨mm, hx0, hput⟩ := hbag2.focus 1 rfl
    rw [nArr_at] at hx0
    refine G.append 9 1 16 (.string (mkS [])) mm (ss.map nmV) [.string (mkS t)] (.slice na ss.length nc) g3 0 1 1 (by kernel_rfl) rfl rfl (by omega) hx0 e3 (nmV_ok [t]) rfl (by omega) (by simp; omega) (by simp; omega) ?_
    intro v4 m4 hx4
    rw [show ss.map nmV ++ [.string (mkS t)] = (ss ++ [t]).map nmV by rw [List.map_append]; rfl] at hx4
    obtain ⟨a4, c4, rfl⟩ := hx4.shape
    rw [List.length_map] at hx4 ⊢
    have hbag3 := hput (nArr a4 c4 (ss ++ [t])) m4 hx4
    refine G.add (i : Int) 1 ((i + 1 : Nat) : Int) (by kernel_rfl) (by omega) (by omega) (by omega) ?_
    refine G.back (by kernel_rfl) (hJ (i + 1, k2, ss ++ [t], (a4, c4)) _ _ _ ⟨by kernel_rfl, by kernel_rfl, by kernel_rfl⟩ ((l1.trans l2).trans l3) ⟨by dsimp only; omega, hk2, by dsimp only; simp [hsl], ?_, hbag3⟩ (by dsimp only; omega))
    intro j x' t' hx' ht'
    dsimp only at ht'
    rcases Nat.lt_or_ge j ss.length with hj | hj
    · rw [List.getElem?_append_left hj] at ht'
      exact hss j x' t' hx' ht'
    · rw [List.getElem?_append_right hj] at ht'
      have hj0 : j - ss.length = 0 := by
        obtain ⟨h', _⟩ := List.getElem?_eq_some_iff.1 ht'
        simp at h'; omega
      rw [hj0] at ht'
      obtain rfl : j = i := by omega
      rw [hTi] at hx'
      cases hx'
      simp at ht'
      subst ht'
      exact hv
  · obtain rfl : i = T.length := by omega
    refine G.lssF (T.length : Int) (T.length : Int) (by kernel_rfl) (by omega) ?_
    exact G.ret (.slice na ss.length nc) (by kernel_rfl) ⟨ss, k1, na, nc, rfl, hsl, hss, hk1, m0, Src.at hg0, hL⟩
end Go.Proofs.YtpdboaedoimahaaGreatDoor
end
section
set_option linter.unusedSectionVars false
set_option linter.unusedVariables false
set_option linter.unusedSimpArgs false
namespace Go.Proofs.YtpdboaedoimahaaGreatDoor
section
variable {P : Program}
end
def intV (z : Int) : Value := .int .i64 z
theorem beq_dec (a b : Int) : (a == b) = decide (a = b) := by by_cases h : a = b <;> simp [h]
theorem keyInt : KeyT Tryz.prog 3 intV :=
  ⟨fun a b w => by
    have := run_equalIn_int (P := Tryz.prog) w 9999 3 .i64 .i64 a b (by kernel_rfl)
    show (Op.equalIn (9999 + 1) _ _ _).run _ _ = _
    unfold intV
    rw [this, beq_dec],
   ⟨_, (by kernel_rfl : Tryz.prog.underlying 3 = some (.int .i64)), .inr fun a b => by simp only [Instr.sameNow, intV, if_true, beq_dec]⟩,
   fun e a w => run_chk_leaf (d := 9999) (.inl ⟨.i64, by kernel_rfl⟩) e (intV a) w,
   fun a => bits_int 10000 .i64 a, fun a b h => by unfold intV at h; simpa using h⟩
end Go.Proofs.YtpdboaedoimahaaGreatDoor
end
section
set_option linter.unusedSectionVars false
set_option linter.unusedVariables false
namespace Go.Proofs.YtpdboaedoimahaaGreatDoor
open Go.RowKit Go.MapKept
theorem filV {k : Nat} (h1 : 1 ≤ k) (h3 : k ≤ 3) : assoc (k : Int) (putK (3 : Int) (Value.string (mkS [114, 101, 100])) (putK (2 : Int) (Value.string (mkS [49, 47, 50])) (putK (1 : Int) (Value.string (mkS [49])) []))) = some (.string (mkS (dflt k))) := by
  rcases (by omega : k = 1 ∨ k = 2 ∨ k = 3) with rfl | rfl | rfl
  · rw [assoc_putK, if_neg (by decide), assoc_putK, if_neg (by decide), assoc_putK, if_pos (by decide)]; rfl
  · rw [assoc_putK, if_neg (by decide), assoc_putK, if_pos (by decide)]; rfl
  · rw [assoc_putK, if_pos (by decide)]; rfl
theorem fil_get {T : List (List UInt8 × Nat)} {ss : List (List UInt8)} {n : Nat} (h : n < ss.length) : ((fil T ss n).map nmV)[n]? = some (.string (mkS (ss.getD n []))) := by
  rw [List.getElem?_map, fil_at h, if_neg (by omega)]; rfl
theorem hotI_succ {F : List Feat} {i n : Nat} {f : Feat} (h : F[n]? = some f) : hotI F i (n + 1) = if f.1 = i ∧ f.2.1 = 2 then (n : Int) else hotI F i n := by
  rw [hotI, h]
set_option maxHeartbeats 16000000 in
theorem encodeDrops0 {u : PH} {v : Value} {ts : List Int} {kz : Int} (ht : TabU u) (hv : ListP u v 1 (intsZ ts)) (hlo : ∀ t ∈ ts, -9223372036854775808 ≤ t) (hhi : ∀ t ∈ ts, t ≤ 9223372036854775807) (hk0 : 0 ≤ kz) (hk1 : kz ≤ 255) :
    Fn0 Tryz.prog 4 [v, .int .u8 kz] u fun v' _ => v' = .bool true := by
  obtain ⟨a, c, rfl⟩ := hv.opn
  rw [intsZ_length] at hv ⊢
  refine Fn0.of Tryz.func4 (by kernel_rfl) (by kernel_rfl) ?_
  by_cases h400 : 400 < ts.length
  · refine G.gtrT (ts.length : Int) 400 (by kernel_rfl) (by omega) ?_
    refine G.call0 _ _ (by kernel_rfl) Tryz.call6 sane12 ?_
    rintro v1 u1 l1 rfl
    exact G.ret (.bool true) (by kernel_rfl) ⟨rfl, rfl⟩
  refine G.gtrF (ts.length : Int) 400 (by kernel_rfl) (by omega) ?_
  refine G.callO _ _ (by kernel_rfl) Tryz.call7 (srcNew0 hv (by omega) hlo hhi) ?_
  rintro v1 u1 m1 l1 ⟨s, rfl, rfl, hs⟩ _
  rw [mt_or]
  refine G.callA _ _ (by kernel_rfl) (by kernel_rfl) Tryz.call8 (mt_or _).symm (apart_mt _) (srcSchema0 6 (by omega) (by omega) hs (Nat.zero_le _)) ?_
  rintro v2 u2 m2 l2 ⟨T, R, F, lab, k2, hX, ok, hT6, hk2, rfl⟩ _
  rw [mt_or]
  obtain ⟨xa, xc, xb, xd, xe, xf, rfl, hTL, hRL, hFL⟩ := id hX
  refine G.callA _ _ (by kernel_rfl) (by kernel_rfl) Tryz.call15 (mt_or _).symm (apart_mt _) (srcTupleM0 (w := .slice xb R.length xd) (x := .slice xe F.length xf) (y := .int .i64 lab) (hs.mono l2) hk2 hTL (by omega) ok.att.kind ⟨_, _, _, rfl⟩ ⟨_, _, _, rfl⟩ ⟨_, rfl⟩) ?_
  rintro v3 u3 m3 l3 ⟨ss, k3, ya, yc, rfl, hSl, hSv, hk3, m0, hsrc, mb, hA, _⟩ _
  rw [mt_or]
  rw [nArr_at] at hA
  refine G.drop m0 (by kernel_rfl) (by
    obtain ⟨rfl, hg0⟩ := Src.split hsrc
    exact fun g o hg => PH.or_l hg) ?_
  have ht3 := ht.mono ((l1.trans l2).trans l3)
  have hT : TupOK T ss := ⟨hSl, hSv⟩
  have hX3 := hX.mono l3
  have ok3 := ok.mono l3
  have hfeat := ok.feat
  have hkind := ok.att.kind
  have hl1 := ok.l1
  have hf8 := ok.f2
  have ht1 := ok.t1
  have hTL3 := hTL.mono l3
  have hFL3 := hFL.mono l3
  have hl2 := ok.l2
  clear hX hTL hRL hFL ok hv
  obtain ⟨g, yc', hgc⟩ := hA.ptr (fun e => by
    have : ss.length = 0 := by simpa using congrArg List.length e
    omega)
  simp only [Value.slice.injEq] at hgc
  obtain ⟨rfl, _, rfl⟩ := hgc
  refine G.loop (ι := Nat) (fun i => [(1, .v (.int .u8 kz)), (6, .p 4002 0), (7, .v (.slice (some ⟨g, 0, none⟩) ss.length yc)), (30, .v (.slice xa T.length xc)), (31, .v (.int .i64 (T.length : Int))), (32, .v (.int .i64 (i : Int)))])
    (fun i => [(4002, ⟨30, [.v (.slice xa T.length xc), .v (.slice xb R.length xd), .v (.slice xe F.length xf), .v (.int .i64 lab)]⟩)])
    (fun i u' m' => i ≤ T.length ∧ ArrAt mb m' (.slice (some ⟨g, 0, none⟩) ss.length yc) 9 1 ((fil T ss i).map nmV))
    (fun i => T.length - i) 0 (by kernel_rfl) (fun _ => by kernel_rfl) ⟨by kernel_rfl, by kernel_rfl, by kernel_rfl⟩ ⟨by omega, by rw [fil_zero]; exact hA⟩ ?_
  rintro J i hJ u4 m4 l4 ⟨hi, hA4⟩
  by_cases hil : i < T.length
  · refine G.lssT (i : Int) (T.length : Int) (by kernel_rfl) (by omega) ?_
    obtain ⟨x, hTi⟩ : ∃ x, T[i]? = some x := ⟨_, List.getElem?_eq_getElem hil⟩
    obtain ⟨hx1, hx3⟩ := hkind x (List.mem_of_getElem? hTi)
    have hxd : T.getD i ([], 0) = x := by rw [List.getD_eq_getElem?_getD, hTi]; rfl
    obtain ⟨ba, oa, rfl, ea⟩ := ListP.at' (hTL3.mono l4) (j := i) (e := attV x) (by simp [hTi])
    obtain ⟨x1, x2⟩ := x
    simp only at hx1 hx3
    refine G.addr ba oa T.length xc i 2 (by kernel_rfl) hil ?_
    refine G.loadU (some 2) ba (oa + i * 2) (.agg #[.string (mkS x1), .int .i64 (x2 : Int)]) (by kernel_rfl) (by kernel_rfl) ea ?_
    refine G.addr g 0 ss.length yc i 1 (by kernel_rfl) (by omega) ?_
    refine G.loadM none g (0 + i * 1) (.string (mkS (ss.getD i []))) (by kernel_rfl) (by kernel_rfl) (hA4.el (fil_get (by omega))) ?_
    by_cases h0 : ss.getD i [] = []
    · refine G.eqST (ss.getD i []) [] (by kernel_rfl) h0 ?_
      refine G.mapMk (by kernel_rfl) ?_
      intro g2 hg1 hg2
      have hA5 := hA4.fresh (o := .map #[] 0) hg1
      have hne : mb g2 = none := by
        cases e : mb g2 with
        | none => rfl
        | some o => rw [hA4.see e] at hg1; cases hg1
      refine G.mapPut (et := 9) keyInt g2 _ [] 1 (.string (mkS [49])) (by kernel_rfl) (by kernel_rfl) (upd_same _ _ _) MapO.empty ?_
      intro o1 ho1
      rw [upd_upd]
      refine G.mapPut (et := 9) keyInt g2 o1 _ 2 (.string (mkS [49, 47, 50])) (by kernel_rfl) (by kernel_rfl) (upd_same _ _ _) ho1 ?_
      intro o2 ho2
      rw [upd_upd]
      refine G.mapPut (et := 9) keyInt g2 o2 _ 3 (.string (mkS [114, 101, 100])) (by kernel_rfl) (by kernel_rfl) (upd_same _ _ _) ho2 ?_
      intro o3 ho3
      rw [upd_upd]
      refine G.mapIs (et := 9) keyInt (.string (mkS [])) g2 o3 _ (x2 : Int) (.string (mkS (dflt x2))) (by kernel_rfl) (by kernel_rfl) (.inr (upd_same _ _ _)) ho3 (filV hx1 hx3) ?_
      have hA6 := hA4.fresh (o := o3) hg1
      refine G.addr g 0 ss.length yc i 1 (by kernel_rfl) (by omega) ?_
      refine G.storeA 1 _ ((fil T ss i).map nmV) g ss.length yc i (.string (mkS (dflt x2))) (by kernel_rfl) hA6 (by rw [List.length_map, fil_len]; omega) rfl rfl ?_
      intro m7 hA7
      have hset : ((fil T ss i).map nmV).set i (.string (mkS (dflt x2))) = (fil T ss (i + 1)).map nmV := by
        rw [fil_succ (by omega), if_pos h0, List.map_set, hxd]; rfl
      rw [hset] at hA7
      have hA8 := hA7.del (l := g2) (by rw [upd_same]; simp)
      rw [del_upd_same hne] at hA8
      refine G.drop (m7.del g2) (by kernel_rfl) (del_le _ _) ?_
      refine G.add (i : Int) 1 ((i + 1 : Nat) : Int) (by kernel_rfl) (by omega) (by omega) (by omega) ?_
      exact G.back (by kernel_rfl) (hJ (i + 1) _ _ _ ⟨by kernel_rfl, by kernel_rfl, by kernel_rfl⟩ l4 ⟨by omega, hA8⟩ (by omega))
    · refine G.eqSF (ss.getD i []) [] (by kernel_rfl) h0 ?_
      refine G.add (i : Int) 1 ((i + 1 : Nat) : Int) (by kernel_rfl) (by omega) (by omega) (by omega) ?_
      exact G.back (by kernel_rfl) (hJ (i + 1) _ _ _ ⟨by kernel_rfl, by kernel_rfl, by kernel_rfl⟩ l4 ⟨by omega, by rw [fil_succ (by omega), if_neg h0]; exact hA4⟩ (by omega))
  obtain rfl : i = T.length := by omega
  refine G.lssF (T.length : Int) (T.length : Int) (by kernel_rfl) (by omega) ?_
  clear hJ hA
  obtain ⟨zs, hzs⟩ : ∃ zs, zs = fil T ss T.length := ⟨_, rfl⟩
  rw [← hzs] at hA4
  have hzl : zs.length = ss.length := by rw [hzs, fil_len]
  have hzne : ∀ i, i < zs.length → zs.getD i [] ≠ [] := fun i hi => by rw [hzs, ← hSl]; exact fil_ne (by omega)
  have hZ : TupOK T zs := by rw [hzs]; exact fil_ok hT hkind _
  have hflt : ∀ f ∈ F, f.1 < zs.length := fun f hf => feat_at hfeat hZ hf
  have hllt : ∀ l : Nat, lab = (l : Int) → l < zs.length := fun l hl => by
    obtain ⟨n, hn⟩ := hl2 l hl
    obtain ⟨h, _⟩ := List.getElem?_eq_some_iff.1 hn
    omega
  refine G.giveP (ma := m4) (sm := PH.mt) (by kernel_rfl) (by funext g; unfold PH.or; cases m4 g <;> rfl) (fun g => .inr rfl) (fun g => .inl rfl) ?_
  intro u5 l5 hm5
  have hS5 := hA4.list hm5
  have le5 : PH.le u3 u5 := l4.trans l5
  have hP5 : TupP u5 (.agg #[.slice xa T.length xc, .slice xb R.length xd, .slice xe F.length xf, .int .i64 lab]) (.slice (some ⟨g, 0, none⟩) ss.length yc) T R F lab zs := ⟨hX3.mono le5, ok3.mono le5, hS5, hZ⟩
  refine G.call0 _ _ (by kernel_rfl) Tryz.call12 (encCounts0 hP5) ?_
  rintro v6 u6 l6 rfl
  rw [cnt_full hllt hflt hzne]
  have hzp : (0 : Int) < (ss.length : Int) := by omega
  obtain ⟨i, hi⟩ : ∃ i : Nat, kz % (ss.length : Int) = (i : Int) := ⟨(kz % (ss.length : Int)).toNat, by have := Int.emod_nonneg kz (Int.ne_of_gt hzp); omega⟩
  have hil : i < ss.length := by have := Int.emod_lt_of_pos kz hzp; omega
  refine G.convI .u8 .i64 .u8 kz kz (by kernel_rfl) (i64_wrap (by omega) (by omega)) ?_
  refine G.rem kz (ss.length : Int) (i : Int) (by kernel_rfl) hk0 (by omega) hzp hi ?_
  refine G.appendL 9 1 16 (.string (mkS [])) PH.mt [] (zs.map nmV) (.slice none 0 0) (some ⟨g, 0, none⟩) ss.length yc (by kernel_rfl) rfl rfl (by omega) (ArrAt.nil _ _ _) (hS5.mono l6) (nmV_ok zs) (by simp; omega) (by simp; omega) ?_
  intro v7 m7 hA7
  rw [List.nil_append] at hA7
  obtain ⟨g7, c7, rfl⟩ := hA7.ptr (fun e => by
    have : zs.length = 0 := by simpa using congrArg List.length e
    omega)
  rw [List.length_map] at hA7 ⊢
  refine G.addr g7 0 zs.length c7 i 1 (by kernel_rfl) (by omega) ?_
  refine G.storeA 1 PH.mt (zs.map nmV) g7 zs.length c7 i (.string (mkS [])) (by kernel_rfl) hA7 (by rw [List.length_map]; omega) rfl rfl ?_
  intro m8 hA8
  rw [show (zs.map nmV).set i (.string (mkS [])) = (zs.set i []).map nmV by rw [List.map_set]; rfl] at hA8
  have hW : TupOK T (zs.set i []) := set_ok hZ i
  have hwl : (zs.set i []).length = zs.length := List.length_set
  have hwi : (zs.set i []).getD i [] = [] := by rw [getD_set (by omega), if_pos rfl]
  have hcd := cnt_drop hl1 hllt hflt hzne (show i < zs.length by omega)
  obtain ⟨ws, hws⟩ : ∃ ws, ws = zs.set i [] := ⟨_, rfl⟩
  rw [← hws] at hA8 hW hwl hwi hcd
  rw [← hwl] at hA8 ⊢
  have le6 := le5.trans l6
  refine G.join (ι := Bool) (.bool false) (fun b => [(6, .p 4002 0), (10, .v (.int .i64 (i : Int))), (11, .v (.slice (some ⟨g7, 0, none⟩) ws.length c7)), (12, .v (.bool b))])
    (fun i => [(4002, ⟨30, [.v (.slice xa T.length xc), .v (.slice xb R.length xd), .v (.slice xe F.length xf), .v (.int .i64 lab)]⟩)])
    (fun b u' m' => m' = m8 ∧ b = wantB F lab i 0) (fun _ => by kernel_rfl) (by kernel_rfl) ?tail ?way
  case way =>
    intro hjoin
    by_cases hne : (i : Int) = lab
    · refine G.neqF (i : Int) lab (by kernel_rfl) (by omega) ?_
      exact hjoin false _ _ _ (by kernel_rfl) ⟨by kernel_rfl, by kernel_rfl, by kernel_rfl⟩ (PH.le_refl _) ⟨rfl, by rw [wantB_zero, decide_eq_false (fun e => e hne)]⟩
    · refine G.neqT (i : Int) lab (by kernel_rfl) (by omega) ?_
      exact hjoin true _ _ _ (by kernel_rfl) ⟨by kernel_rfl, by kernel_rfl, by kernel_rfl⟩ (PH.le_refl _) ⟨rfl, by rw [wantB_zero, decide_eq_true hne]⟩
  rintro b0 u8 m8' l8 ⟨rfl, hb0⟩
  refine G.loop (ι := Nat × Bool × Int) (fun k => [(6, .p 4002 0), (10, .v (.int .i64 (i : Int))), (11, .v (.slice (some ⟨g7, 0, none⟩) ws.length c7)), (12, .v (.bool k.2.1)), (13, .v (.int .i64 k.2.2)), (70, .v (.slice xe F.length xf)), (71, .v (.int .i64 (F.length : Int))), (72, .v (.int .i64 (k.1 : Int)))])
    (fun k => [(4002, ⟨30, [.v (.slice xa T.length xc), .v (.slice xb R.length xd), .v (.slice xe F.length xf), .v (.int .i64 lab)]⟩)])
    (fun k u' m' => k.1 ≤ F.length ∧ m' = m8' ∧ k.2.1 = wantB F lab i k.1 ∧ k.2.2 = hotI F i k.1) (fun k => F.length - k.1) (0, b0, -1) (by kernel_rfl) (fun _ => by kernel_rfl) ⟨by kernel_rfl, by kernel_rfl, by kernel_rfl⟩ ⟨by omega, rfl, hb0, rfl⟩ ?_
  rintro J ⟨k, b, h⟩ hJ u9 m9 l9 ⟨hk, rfl, hb, hh⟩
  simp only at hk hb hh hJ
  by_cases hkl : k < F.length
  · refine G.lssT (k : Int) (F.length : Int) (by kernel_rfl) (by omega) ?_
    obtain ⟨f, hFk⟩ : ∃ f, F[k]? = some f := ⟨_, List.getElem?_eq_getElem hkl⟩
    have hws2 := wantB_succ (lab := lab) (i := i) hFk
    have hhs := hotI_succ (i := i) hFk
    obtain ⟨fb, fo, rfl, ef⟩ := ListP.at' (hFL3.mono ((le6.trans l8).trans l9)) (j := k) (e := featV f) (by simp [hFk])
    obtain ⟨f1, f2, f3⟩ := f
    simp only at hws2 hhs
    refine G.addr fb fo F.length xf k 3 (by kernel_rfl) hkl ?_
    refine G.loadU (some 3) fb (fo + k * 3) (.agg #[.int .i64 (f1 : Int), .int .i64 (f2 : Int), .int .i64 (f3 : Int)]) (by kernel_rfl) (by kernel_rfl) ef ?_
    by_cases he1 : f1 = i
    · refine G.eqlT (f1 : Int) (i : Int) (by kernel_rfl) (by omega) ?_
      cases b with
      | true =>
        by_cases he2 : f2 = 1
        · refine G.eqlT (f2 : Int) 1 (by kernel_rfl) (by omega) ?_
          have hh2 : hotI F i (k + 1) = h := by rw [hhs, if_neg (fun e => by omega), hh]
          by_cases he3 : f3 = 1
          · refine G.eqlT (f3 : Int) 1 (by kernel_rfl) (by omega) ?_
            refine G.eqlF (f2 : Int) 2 (by kernel_rfl) (by omega) ?_
            refine G.add (k : Int) 1 ((k + 1 : Nat) : Int) (by kernel_rfl) (by omega) (by omega) (by omega) ?_
            exact G.back (by kernel_rfl) (hJ (k + 1, false, h) _ _ _ ⟨by kernel_rfl, by kernel_rfl, by kernel_rfl⟩ l9 ⟨by dsimp only; omega, rfl, (by dsimp only; rw [hws2, ← hb]; simp [he1, he2, he3]), hh2.symm⟩ (by dsimp only; omega))
          · refine G.eqlF (f3 : Int) 1 (by kernel_rfl) (by omega) ?_
            refine G.eqlF (f2 : Int) 2 (by kernel_rfl) (by omega) ?_
            refine G.add (k : Int) 1 ((k + 1 : Nat) : Int) (by kernel_rfl) (by omega) (by omega) (by omega) ?_
            exact G.back (by kernel_rfl) (hJ (k + 1, true, h) _ _ _ ⟨by kernel_rfl, by kernel_rfl, by kernel_rfl⟩ l9 ⟨by dsimp only; omega, rfl, (by dsimp only; rw [hws2, ← hb]; simp [he3]), hh2.symm⟩ (by dsimp only; omega))
        · refine G.eqlF (f2 : Int) 1 (by kernel_rfl) (by omega) ?_
          by_cases he4 : f2 = 2
          · refine G.eqlT (f2 : Int) 2 (by kernel_rfl) (by omega) ?_
            refine G.add (k : Int) 1 ((k + 1 : Nat) : Int) (by kernel_rfl) (by omega) (by omega) (by omega) ?_
            exact G.back (by kernel_rfl) (hJ (k + 1, true, (k : Int)) _ _ _ ⟨by kernel_rfl, by kernel_rfl, by kernel_rfl⟩ l9 ⟨by dsimp only; omega, rfl, (by dsimp only; rw [hws2, ← hb]; simp [he2]), (by dsimp only; rw [hhs, if_pos ⟨he1, he4⟩])⟩ (by dsimp only; omega))
          · refine G.eqlF (f2 : Int) 2 (by kernel_rfl) (by omega) ?_
            refine G.add (k : Int) 1 ((k + 1 : Nat) : Int) (by kernel_rfl) (by omega) (by omega) (by omega) ?_
            exact G.back (by kernel_rfl) (hJ (k + 1, true, h) _ _ _ ⟨by kernel_rfl, by kernel_rfl, by kernel_rfl⟩ l9 ⟨by dsimp only; omega, rfl, (by dsimp only; rw [hws2, ← hb]; simp [he2]), (by dsimp only; rw [hhs, if_neg (fun e => he4 e.2), hh])⟩ (by dsimp only; omega))
      | false =>
        by_cases he4 : f2 = 2
        · refine G.eqlT (f2 : Int) 2 (by kernel_rfl) (by omega) ?_
          refine G.add (k : Int) 1 ((k + 1 : Nat) : Int) (by kernel_rfl) (by omega) (by omega) (by omega) ?_
          exact G.back (by kernel_rfl) (hJ (k + 1, false, (k : Int)) _ _ _ ⟨by kernel_rfl, by kernel_rfl, by kernel_rfl⟩ l9 ⟨by dsimp only; omega, rfl, (by dsimp only; rw [hws2, ← hb]; simp []), (by dsimp only; rw [hhs, if_pos ⟨he1, he4⟩])⟩ (by dsimp only; omega))
        · refine G.eqlF (f2 : Int) 2 (by kernel_rfl) (by omega) ?_
          refine G.add (k : Int) 1 ((k + 1 : Nat) : Int) (by kernel_rfl) (by omega) (by omega) (by omega) ?_
          exact G.back (by kernel_rfl) (hJ (k + 1, false, h) _ _ _ ⟨by kernel_rfl, by kernel_rfl, by kernel_rfl⟩ l9 ⟨by dsimp only; omega, rfl, (by dsimp only; rw [hws2, ← hb]; simp []), (by dsimp only; rw [hhs, if_neg (fun e => he4 e.2), hh])⟩ (by dsimp only; omega))
    · refine G.eqlF (f1 : Int) (i : Int) (by kernel_rfl) (by omega) ?_
      refine G.add (k : Int) 1 ((k + 1 : Nat) : Int) (by kernel_rfl) (by omega) (by omega) (by omega) ?_
      exact G.back (by kernel_rfl) (hJ (k + 1, b, h) _ _ _ ⟨by kernel_rfl, by kernel_rfl, by kernel_rfl⟩ l9 ⟨by dsimp only; omega, rfl, (by dsimp only; rw [hws2, ← hb]; simp [he1]), (by dsimp only; rw [hhs, if_neg (fun e => he1 e.1), hh])⟩ (by dsimp only; omega))
  obtain rfl : k = F.length := by omega
  refine G.lssF (F.length : Int) (F.length : Int) (by kernel_rfl) (by omega) ?_
  clear hJ
  rw [← hcd] at hb
  have le9 := (le6.trans l8).trans l9
  refine G.giveP (ma := m9) (sm := PH.mt) (by kernel_rfl) (by funext g; unfold PH.or; cases m9 g <;> rfl) (fun g => .inr rfl) (fun g => .inl rfl) ?_
  intro u10 l10 hm10
  have hS10 := hA8.list hm10
  have le10 : PH.le u3 u10 := le9.trans l10
  have hP10 : TupP u10 (.agg #[.slice xa T.length xc, .slice xb R.length xd, .slice xe F.length xf, .int .i64 lab]) (.slice (some ⟨g7, 0, none⟩) ws.length c7) T R F lab ws := ⟨hX3.mono le10, ok3.mono le10, hS10, hW⟩
  refine G.call0 _ _ (by kernel_rfl) Tryz.call12 (encCounts0 hP10) ?_
  rintro v11 u11 l11 rfl
  rw [← hb]
  refine G.neB b b (by kernel_rfl) ?_
  have hlt := hP10.lt
  have hcof := encCof0 (ht3.mono (le10.trans l11)) (hP10.mono l11) (by omega)
  cases b with
  | true =>
    refine G.call0 _ _ (by kernel_rfl) Tryz.call16 hcof ?_
    rintro v12 u12 l12 ⟨r12, rfl, k12⟩
    obtain ⟨a1, n1, c1, a2, n2, c2, rfl⟩ := k12.opn
    have hone := cfT_one hfeat hW hl1 hlt hb.symm
    refine G.neqF 0 0 (by kernel_rfl) (by omega) ?_
    refine G.eqST (ratT (cfT F lab ws).c) [49] (by kernel_rfl) (by rw [hone.c, ratT_one]) ?_
    refine G.neB true true (by kernel_rfl) ?_
    by_cases hneg : h < 0
    · refine G.lssT h 0 (by kernel_rfl) hneg ?_
      refine G.call0 _ _ (by kernel_rfl) Tryz.call6 sane12 ?_
      rintro v13 u13 l13 rfl
      exact G.ret (.bool true) (by kernel_rfl) ⟨rfl, rfl⟩
    · refine G.lssF h 0 (by kernel_rfl) (by omega) ?_
      obtain ⟨k, f, q1, q2, q3, q4⟩ := hotI_at F i F.length (by omega)
      have hLf := lifts_feat hfeat hW q2
      have hf1 : ws.getD f.1 [] = [] := by rw [q3]; exact hwi
      unfold featO at hLf
      rw [if_pos q4, hf1] at hLf
      have hs1 := cfT_at hfeat hW hl1 hlt hb.symm hLf
      refine G.call0 _ _ (by kernel_rfl) Tryz.call17 (refSum0 (h, []) k12 (by omega)) ?_
      rintro v13 u13 l13 rfl
      refine G.eqST (ratT ((cfT F lab ws).s (h, []))) [49] (by kernel_rfl) (by rw [hh, q1, hs1, ratT_one]) ?_
      refine G.call0 _ _ (by kernel_rfl) Tryz.call6 sane12 ?_
      rintro v14 u14 l14 rfl
      exact G.ret (.bool true) (by kernel_rfl) ⟨rfl, rfl⟩
  | false =>
    rw [cfT_no hfeat hW hl1 hlt hb.symm] at hcof
    refine G.call0 _ _ (by kernel_rfl) Tryz.call16 hcof ?_
    rintro v12 u12 l12 ⟨r12, rfl, k12⟩
    obtain ⟨a1, n1, c1, a2, n2, c2, rfl⟩ := k12.opn
    refine G.neqF 0 0 (by kernel_rfl) (by omega) ?_
    refine G.eqSF (ratT (CF.num 0).c) [49] (by kernel_rfl) (by decide +kernel) ?_
    refine G.neB false false (by kernel_rfl) ?_
    refine G.call0 _ _ (by kernel_rfl) Tryz.call6 sane12 ?_
    rintro v13 u13 l13 rfl
    exact G.ret (.bool true) (by kernel_rfl) ⟨rfl, rfl⟩
end Go.Proofs.YtpdboaedoimahaaGreatDoor
end
