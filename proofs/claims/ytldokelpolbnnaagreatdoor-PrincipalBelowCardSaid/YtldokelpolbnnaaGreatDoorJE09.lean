/- Joined out of parts of one proof by a program: contracts of the functions that the statement reaches, and the plain facts behind them. -/
import Derived.Test.YtldokelpolbnnaaGreatDoorJE08
set_option linter.unusedVariables false
set_option linter.unusedSimpArgs false
set_option linter.unusedSectionVars false
section
set_option linter.unusedSectionVars false
set_option linter.unusedVariables false
namespace Go.Proofs.YtldokelpolbnnaaGreatDoor
open Go.RowKit
def zF : Value := .agg #[.bool false, .slice none 0 0, .bool false, .slice none 0 0]
theorem matArr_at {g n : Nat} {rows : List (Value × List Value)} {m0 m : PH} : (matArr g n rows).At m0 m = ArrAt m0 m (.slice (some ⟨g, 0, none⟩) n n) 81 1 (rows.map (·.1)) := rfl
theorem outArr_at {v : Value} {es : List Value} {m0 m : PH} : (outArr v es).At m0 m = ArrAt m0 m v 90 4 es := rfl
theorem rowArr_at {r : Value × List Value} {m0 m : PH} : (rowArr r).At m0 m = ArrAt m0 m r.1 90 4 r.2 := rfl
def nilRow : Value × List Value := (.slice none 0 0, [])
theorem Bag.nils {l : List Arr} {m : PH} (h : Bag m l) : ∀ n, Bag m ((List.replicate n nilRow).map rowArr ++ l)
 | 0 => h
 | n + 1 => ⟨m, ArrAt.nil _ _ _, Bag.nils h n⟩
theorem MAt.at {u : PH} {rows : List (Value × List Value)} {M : List (List Rat)} {i : Nat} (h : MAt u rows M) (hi : i < rows.length) : ∃ r, rows[i]? = some r ∧ AtP FracP u r.2 (gM M i) := ⟨rows[i], List.getElem?_eq_getElem hi, h.2 i _ (List.getElem?_eq_getElem hi)⟩
theorem FMatP.cell {u : PH} {a : Option Addr} {n c i j : Nat} {A : List (List Rat)} (h : FMatP u (.slice a n c) A) (hi : i < A.length) (hj : j < (gM A i).length) :
  ∃ b off b' off' c' f, a = some ⟨b, off, none⟩ ∧ ElP u b (off + i * 1) (.slice (some ⟨b', off', none⟩) (gM A i).length c') ∧ ElP u b' (off' + j * 4) (fv f) ∧ FracP u (fv f) (gR (gM A i) j) := by
 obtain ⟨b, off, e, rfl, h1, h2⟩ := LP.at h (List.getElem?_eq_getElem hi)
 rw [← gM_at hi] at h2
 obtain ⟨a', c', rfl⟩ := h2.opn
 obtain ⟨b', off', b1, a1, n1, c1, b2, a2, n2, c2, rfl, k1, k2⟩ := h2.at hj
 exact ⟨b, off, b', off', c', ⟨b1, a1, n1, c1, b2, a2, n2, c2⟩, rfl, h1, k1, k2⟩
structure St where
 k : Nat
 g : Nat
 rows : List (Value × List Value)
 M : List (List Rat)
 es : List Value
 qs : List Rat
 gb : List Arr
structure StOK (u m : PH) (n T gO cO : Nat) (A : List (List Rat)) (s : St) : Prop where
 hk : s.k ≤ n
 ql : s.qs.length = s.k + 1
 at' : AtP FracP u s.es s.qs
 mat : MAt u s.rows s.M
 sq : SqM n s.M
 szM : SzM s.M (cb T s.k)
 szq : SzL s.qs (cb T s.k)
 go : charGo A n (n - s.k) (s.k + 1) s.M s.qs = charL A
 bag : Bag m (matArr s.g n s.rows :: (s.rows.map rowArr ++ outArr (.slice (some ⟨gO, 0, none⟩) (n + 1) cO) (List.replicate (n - s.k) zF ++ s.es) :: s.gb))
theorem gR_rep (n j : Nat) : gR (List.replicate n 0) j = 0 := by
 unfold gR
 rw [List.getD_eq_getElem?_getD, List.getElem?_replicate]
 split <;> rfl
theorem gM_rep {n i : Nat} (r : List Rat) (h : i < n) : gM (List.replicate n r) i = r := by
 unfold gM
 rw [List.getD_eq_getElem?_getD, List.getElem?_replicate, if_pos h]; rfl
theorem sz_zero : Sz 0 1 := sz_one (z := 0) (by decide)
theorem AtP.rep {u : PH} {e : Value} {q : Rat} (h : FracP u e q) (n : Nat) : AtP FracP u (List.replicate n e) (List.replicate n q) := by
 refine ⟨by simp, fun j x hj => ?_⟩
 rw [List.getElem?_replicate] at hj ⊢
 split at hj
 ·rename_i hlt
  simp only [Option.some.injEq] at hj; subst hj
  exact ⟨e, by rw [if_pos hlt], h⟩
 ·cases hj
section steps
variable {fn : Func} {Post : Spec} {u m : PH}
end steps
set_option maxHeartbeats 8000000 in
theorem char0 {u : PH} {v : Value} {A : List (List Rat)} {T : Nat} (h : MatP u v (matT A)) (hs : Sq A) (h4 : A.length ≤ 4) (hT : T ≤ 400) (hA : ∀ r ∈ A, SzL r T) :
  Fn0 Tryz.prog 48 [v] u fun v' u' => FracsP u' v' (charL A) ∧ SzL (charL A) (cb T A.length) := by
 obtain ⟨a, c, rfl⟩ := h.opn
 rw [matT_length] at h ⊢
 have hrl : ∀ r ∈ A, r.length = A.length := hs.row
 refine Fn0.of Tryz.func48 (by kernel_rfl) (by kernel_rfl) ?_
 refine G.loop (ι := Nat × List Value × (Option Addr × Nat × Nat)) (fun i => [(3, .v (.int .i64 (A.length : Int))), (4, .v (.slice i.2.2.1 i.2.2.2.1 i.2.2.2.2)), (20, .v (.slice a A.length c)), (21, .v (.int .i64 (A.length : Int))), (22, .v (.int .i64 (i.1 : Int)))]) (fun _ => [])
  (fun i u' m' => i.1 ≤ A.length ∧ AtP FracsP u' i.2.1 (A.take i.1) ∧ ArrAt PH.mt m' (.slice i.2.2.1 i.2.2.2.1 i.2.2.2.2) 81 1 i.2.1)
  (fun i => A.length - i.1) (0, [], (none, 0, 0)) (by kernel_rfl) (fun _ => by kernel_rfl) ⟨by kernel_rfl, by kernel_rfl, by kernel_rfl⟩ ⟨Nat.zero_le _, AtP.nil, ArrAt.nil _ _ _⟩ ?_
 rintro J ⟨k, vals, ⟨a2, n2, c2⟩⟩ hJ u2 m2 l2 ⟨hk, hF, hA2⟩
 simp only at hk hF hA2 hJ
 have hel := hF.1
 rw [List.length_take] at hel
 by_cases hlt : k < A.length
 ·refine G.lssT (k : Int) (A.length : Int) (by kernel_rfl) (by omega) ?_
  have htk : A[k]? = some A[k] := List.getElem?_eq_getElem hlt
  have hmem := List.getElem_mem hlt
  obtain ⟨ba, oa, a3, c3, rfl, e3, s3⟩ := (h.mono l2).row (matT_at htk)
  rw [List.length_map] at e3 s3
  refine G.addr ba oa A.length c k 1 (by kernel_rfl) (by omega) ?_
  refine G.loadU none ba (oa + k * 1) _ (by kernel_rfl) (by kernel_rfl) e3 ?_
  refine G.call0 _ _ (by kernel_rfl) Tryz.call91 (fracList0 s3 (hs.tx _ hmem) (by rw [hrl _ hmem]; omega)) ?_
  intro v4 u4 l4 k4
  obtain ⟨a4, c4, rfl⟩ := k4.lp.opn
  refine G.buildU 81 1 24 (.slice none 0 0) [.slice a4 A[k].length c4] (by kernel_rfl) (slice_ok _ _ _) rfl (by omega) (by simp) (by simp) ?_
  intro g6 u6 l6 e6
  refine G.append 81 1 24 (.slice none 0 0) PH.mt vals [.slice a4 A[k].length c4] (.slice a2 n2 c2) g6 0 1 1 (by kernel_rfl) rfl rfl (by omega) hA2 e6 (slice_ok _ _ _) rfl (by omega) (by omega) (by omega) ?_
  intro v7 m7 hA7
  obtain ⟨a7, c7, rfl⟩ := hA7.shape
  refine G.add (k : Int) 1 ((k + 1 : Nat) : Int) (by kernel_rfl) (by omega) (by omega) (by omega) ?_
  refine G.back (by kernel_rfl) (hJ (k + 1, vals ++ [Value.slice a4 A[k].length c4], (a7, (vals ++ [Value.slice a4 A[k].length c4]).length, c7)) _ _ _ ⟨by kernel_rfl, by kernel_rfl, by kernel_rfl⟩ ((l2.trans l4).trans l6) ⟨by dsimp only; omega, ?_, hA7⟩ (by dsimp only; omega))
  dsimp only
  rw [List.take_add_one, htk]
  exact (hF.mono (fun _ _ h => h.mono (l4.trans l6))).snoc (k4.mono l6)
 ·obtain rfl : k = A.length := by omega
  rw [List.take_length] at hF
  refine G.lssF (A.length : Int) (A.length : Int) (by kernel_rfl) (by omega) ?_
  refine G.give PH.mt vals _ (by kernel_rfl) hA2 (fun _ => .inl rfl) ?_
  intro u3 l3 hL3
  have hlv : vals.length = A.length := by rw [hF.1]
  obtain ⟨_, _, e0⟩ := hL3.opn
  simp only [Value.slice.injEq] at e0
  obtain ⟨rfl, rfl, rfl⟩ := e0
  rw [hlv] at hL3 ⊢
  have hFM : FMatP u3 (.slice a2 A.length c2) A := ⟨vals, hL3, hF.mono (fun _ _ h => h.mono l3)⟩
  clear hL3 hF hA2 hJ hlv hel
  generalize hN : A.length = n at *
  refine G.add (n : Int) 1 ((n + 1 : Nat) : Int) (by kernel_rfl) (by omega) (by omega) (by omega) ?_
  refine G.make 90 4 64 zF (n + 1) (by kernel_rfl) rfl rfl (by omega) (by omega) (by omega) ?_
  rintro v4 m4 hO4 ⟨aO, rfl⟩
  obtain ⟨gO, rfl, _⟩ := hO4.some'
  refine G.call0 _ _ (by kernel_rfl) Tryz.call60 (fracOf0 (z := 1) (by omega) (by omega)) ?_
  intro v5 u5 l5 k5
  obtain ⟨f5, rfl⟩ := k5.opF
  refine G.addr gO 0 (n + 1) (n + 1) n 4 (by kernel_rfl) (by omega) ?_
  refine G.storeA 4 PH.mt _ gO (n + 1) (n + 1) n (fv f5) (by kernel_rfl) hO4 (by simp) rfl rfl ?_
  intro m6 hO6
  have hset : (List.replicate (n + 1) zF).set n (fv f5) = List.replicate n zF ++ [fv f5] := by
   rw [List.replicate_succ', List.set_append_right _ _ (by simp)]
   simp
  rw [hset] at hO6
  refine G.make 81 1 24 (.slice none 0 0) n (by kernel_rfl) rfl rfl (by omega) (by omega) (by omega) ?_
  rintro v7 m7 hM7 ⟨aM, rfl⟩
  obtain ⟨gM', rfl, _⟩ := hM7.some'
  have hb0 : Bag m6 [outArr (.slice (some ⟨gO, 0, none⟩) (n + 1) (n + 1)) (List.replicate n zF ++ [fv f5])] := ⟨PH.mt, hO6, trivial⟩
  have hb1 : Bag m7 (matArr gM' n (List.replicate n nilRow) :: ((List.replicate n nilRow).map rowArr ++ [outArr (.slice (some ⟨gO, 0, none⟩) (n + 1) (n + 1)) (List.replicate n zF ++ [fv f5])])) := by
   refine (hb0.nils n).add (x := matArr gM' n (List.replicate n nilRow)) ?_
   rw [matArr_at, List.map_replicate]; exact hM7
  clear hO4 hO6 hM7 hb0
  refine G.loop (ι := Nat × List (Value × List Value)) (fun i => [(3, .v (.int .i64 (n : Int))), (4, .v (.slice a2 n c2)), (7, .v (.slice (some ⟨gO, 0, none⟩) (n + 1) (n + 1))), (8, .v (.slice (some ⟨gM', 0, none⟩) n n)), (42, .v (.int .i64 (n : Int))), (43, .v (.int .i64 (i.1 : Int)))]) (fun _ => [])
   (fun i u' m' => i.1 ≤ n ∧ i.2.length = n ∧ (∀ j r, i.2[j]? = some r → if j < i.1 then AtP FracP u' r.2 (List.replicate n 0) else r = nilRow) ∧ Bag m' (matArr gM' n i.2 :: (i.2.map rowArr ++ [outArr (.slice (some ⟨gO, 0, none⟩) (n + 1) (n + 1)) (List.replicate n zF ++ [fv f5])])))
   (fun i => n - i.1) (0, List.replicate n nilRow) (by kernel_rfl) (fun _ => by kernel_rfl) ⟨by kernel_rfl, by kernel_rfl, by kernel_rfl⟩
   ⟨Nat.zero_le _, by simp, fun j r hj => by rw [if_neg (Nat.not_lt_zero _)]; exact List.eq_of_mem_replicate (List.mem_of_getElem? hj), hb1⟩ ?_
  rintro J2 ⟨i, rows⟩ hJ2 u8 m8 l8 ⟨hi, hrn, hrow, hbag⟩
  simp only at hi hrn hrow hbag hJ2
  by_cases hlt2 : i < n
  ·refine G.lssT (i : Int) (n : Int) (by kernel_rfl) (by omega) ?_
   refine G.call0 _ _ (by kernel_rfl) Tryz.call60 (fracOf0 (z := 0) (by omega) (by omega)) ?_
   intro v9 u9 l9 k9
   obtain ⟨f9, rfl⟩ := k9.opF
   refine G.buildU 90 4 64 zF [fv f9] (by kernel_rfl) (fv_ok f9) rfl (by omega) (by simp) (by simp) ?_
   intro g10 u10 l10 e10
   have hLP : ListP u10 (.slice (some ⟨g10, 0, none⟩) 1 1) 4 [fv f9] := ⟨_, 1, rfl, Nat.le_refl _, fun j e hj => ⟨g10, 0, rfl, e10 j e hj⟩⟩
   refine G.callO _ _ (by kernel_rfl) Tryz.call92 (repeatF0 (n := n) hLP (fv_ok f9) (by omega)) ?_
   intro v11 u11 mc11 l11 hA11 hf11
   have hA11' := hA11.join hf11
   obtain ⟨a11, c11, rfl⟩ := hA11.shape
   rw [List.length_replicate] at hA11' ⊢
   have hri : rows[i]? = some nilRow := by
    have hx := hrow i rows[i] (List.getElem?_eq_getElem (by omega))
    rw [if_neg (by omega)] at hx
    rw [List.getElem?_eq_getElem (by omega), hx]
   obtain ⟨m0, hx0, hput⟩ := hbag.focus (i + 1) (get_row hri)
   have hm0 : m0 = m8 := by
    rcases hx0.2 with ⟨_, _, e⟩ | ⟨_, _, _, _, _, e, _⟩
    ·exact e.symm
    ·simp [rowArr, nilRow] at e
   subst hm0
   have hbag2 := hput (rowArr (.slice a11 n c11, List.replicate n (fv f9))) _ hA11'
   rw [set_row (by omega)] at hbag2
   obtain ⟨m0', hx1, hput1⟩ := hbag2.focus 0 rfl
   rw [matArr_at] at hx1
   refine G.addr gM' 0 n n i 1 (by kernel_rfl) hlt2 ?_
   refine G.storeA 1 m0' _ gM' n n i (.slice a11 n c11) (by kernel_rfl) hx1 (by simp [hrn, hlt2]) rfl rfl ?_
   intro m12 hx12
   have hbag3 := hput1 (matArr gM' n (rows.set i (.slice a11 n c11, List.replicate n (fv f9)))) m12 (by
    rw [matArr_at, List.map_set]; exact hx12)
   refine G.add (i : Int) 1 ((i + 1 : Nat) : Int) (by kernel_rfl) (by omega) (by omega) (by omega) ?_
   refine G.back (by kernel_rfl) (hJ2 (i + 1, rows.set i (.slice a11 n c11, List.replicate n (fv f9))) _ _ _ ⟨by kernel_rfl, by kernel_rfl, by kernel_rfl⟩ (((l8.trans l9).trans l10).trans l11) ⟨by dsimp only; omega, by dsimp only; simp [hrn], ?_, hbag3⟩ (by dsimp only; omega))
   intro j r hj
   dsimp only at hj ⊢
   rw [List.getElem?_set] at hj
   by_cases e : i = j
   ·subst e
    rw [if_pos rfl, if_pos (by omega)] at hj
    simp only [Option.some.injEq] at hj
    rw [if_pos (by omega), ← hj]
    exact AtP.rep (k9.mono (l10.trans l11)) n
   ·rw [if_neg e] at hj
    have := hrow j r hj
    by_cases hji : j < i
    ·rw [if_pos hji] at this
     rw [if_pos (by omega)]
     exact this.mono (fun _ _ h => h.mono ((l9.trans l10).trans l11))
    ·rw [if_neg hji] at this
     rw [if_neg (by omega)]; exact this
  ·obtain rfl : i = n := by omega
   refine G.lssF (i : Int) (i : Int) (by kernel_rfl) (by omega) ?_
   have hMat : MAt u8 rows (List.replicate i (List.replicate i 0)) := ⟨by simp [hrn], fun j r hj => by
    have hjl : j < i := by
     rcases Nat.lt_or_ge j rows.length with h' | h'
     ·omega
     ·rw [List.getElem?_eq_none h'] at hj; cases hj
    rw [gM_rep _ hjl]
    have := hrow j r hj
    rw [if_pos hjl] at this; exact this⟩
   have hA' : ∀ i j, i < A.length → j < (gM A i).length → Sz (gR (gM A i) j) T := fun i j h1 h2 => by
    have hm : gM A i ∈ A := by rw [gM_at h1]; exact List.getElem_mem h1
    exact (hA _ hm).at h2
   have hAl : ∀ i, i < A.length → (gM A i).length = A.length := fun i h1 => by rw [gM_at h1, hN]; exact hrl _ (List.getElem_mem h1)
   have one : ((1 : Int) : Rat) = 1 := by decide
   have zero : ((0 : Int) : Rat) = 0 := by decide
   rw [one] at k5
   have hinit : StOK u8 m8 i T gO (i + 1) A ⟨0, gM', rows, List.replicate i (List.replicate i 0), [fv f5], [1], []⟩ := by
    refine ⟨Nat.zero_le _, rfl, ?_, hMat, ⟨by simp, fun j hj => by rw [gM_rep _ hj]; simp⟩, fun a b h1 h2 => ?_, fun q hq => ?_, ?_, hbag⟩
    ·exact AtP.snoc (es := []) (xs := []) AtP.nil (k5.mono l8)
    ·simp only [List.length_replicate] at h1
     rw [gM_rep _ h1, gR_rep]; exact sz_zero
    ·simp at hq; subst hq; exact sz_one (z := 1) (by decide)
    ·simp only [Nat.sub_zero, Nat.zero_add]
     unfold charL; rw [hN]
   refine G.loop (ι := St) (fun s => [(3, .v (.int .i64 (i : Int))), (4, .v (.slice a2 i c2)), (7, .v (.slice (some ⟨gO, 0, none⟩) (i + 1) (i + 1))), (8, .v (.slice (some ⟨s.g, 0, none⟩) i i)), (10, .v (.int .i64 ((s.k + 1 : Nat) : Int)))]) (fun _ => [])
    (fun s u' m' => StOK u' m' i T gO (i + 1) A s) (fun s => i - s.k) ⟨0, gM', rows, List.replicate i (List.replicate i 0), [fv f5], [1], []⟩ (by kernel_rfl) (fun _ => by kernel_rfl) ⟨by kernel_rfl, by kernel_rfl, by kernel_rfl⟩ hinit ?_
   clear hinit hMat hbag hrow hrn hJ2 hb1
   generalize i = n at *
   rintro J3 ⟨k, gl, lrows, M, es, qs, gb⟩ hJ3 u9 m9 l9 ⟨hkn, hql, hat, hmat, hsq, hszM, hszq, hgo, hbag⟩
   simp only at hkn hql hat hmat hsq hszM hszq hgo hbag hJ3
   have hell := hat.1
   by_cases hk1 : k < n
   ·refine G.leqT ((k + 1 : Nat) : Int) (n : Int) (by kernel_rfl) (by omega) ?_
    obtain ⟨B, hB⟩ : ∃ B, B = cb T k := ⟨_, rfl⟩
    have hBle : B ≤ 1000000000 := by rw [hB]; exact cb_le (by omega) hT
    have hB1 : cb T (k + 1) = 32 * B + 16 * T + 42 := by rw [hB]; rfl
    rw [← hB] at hszM hszq
    obtain ⟨eo, heo, hfo⟩ := hat.at (j := 0) (by omega)
    rw [← gR_at (by omega)] at hfo
    obtain ⟨fo, rfl⟩ := hfo.opF
    have hsc : Sz (gR qs 0) B := hszq.at (by omega)
    refine G.loop (ι := Nat × List (Value × List Value) × List (List Rat)) (fun j => [(3, .v (.int .i64 (n : Int))), (4, .v (.slice a2 n c2)), (7, .v (.slice (some ⟨gO, 0, none⟩) (n + 1) (n + 1))), (8, .v (.slice (some ⟨gl, 0, none⟩) n n)), (10, .v (.int .i64 ((k + 1 : Nat) : Int))), (60, .v (.int .i64 (n : Int))), (61, .v (.int .i64 (j.1 : Int)))]) (fun _ => [])
     (fun j u' m' => j.1 ≤ n ∧ MAt u' j.2.1 j.2.2 ∧ SqM n j.2.2 ∧ SzM j.2.2 (2 * B + 1) ∧ (∀ a b, j.1 ≤ a → a < n → b < n → Sz (gR (gM j.2.2 a) b) B) ∧ diagGo (gR qs 0) (n - j.1) j.1 j.2.2 = diagGo (gR qs 0) n 0 M ∧ Bag m' (matArr gl n j.2.1 :: (j.2.1.map rowArr ++ outArr (.slice (some ⟨gO, 0, none⟩) (n + 1) (n + 1)) (List.replicate (n - k) zF ++ es) :: gb)))
     (fun j => n - j.1) (0, lrows, M) (by kernel_rfl) (fun _ => by kernel_rfl) ⟨by kernel_rfl, by kernel_rfl, by kernel_rfl⟩
     ⟨Nat.zero_le _, hmat, hsq, hszM.mono (by omega), fun a b _ h1 h2 => hszM a b (by rw [hsq.1]; exact h1) (by rw [hsq.2 a h1]; exact h2), rfl, hbag⟩ ?_
    rintro J4 ⟨i, rows, M'⟩ hJ4 u10 m10 l10 ⟨hi, hmat', hsq', hsz', hszd, hdg, hbag'⟩
    simp only at hi hmat' hsq' hsz' hszd hdg hbag' hJ4
    have hrn : rows.length = n := by rw [hmat'.1, hsq'.1]
    by_cases hlti : i < n
    ·refine G.lssT (i : Int) (n : Int) (by kernel_rfl) (by omega) ?_
     obtain ⟨⟨rv, res⟩, hri, hra⟩ := hmat'.at (i := i) (by omega)
     have hrl' : res.length = n := by have := hra.1; rw [hsq'.2 i hlti] at this; exact this
     obtain ⟨gr, cr, e⟩ := hbag'.ptr (i + 1) (get_row hri) (by intro e; simp only [rowArr] at e; rw [e] at hrl'; simp at hrl'; omega)
     simp only [rowArr] at e
     rw [hrl'] at e
     subst e
     obtain ⟨e1, he1, hf1⟩ := hra.at (j := i) (by rw [hsq'.2 i hlti]; exact hlti)
     rw [← gR_at (by rw [hsq'.2 i hlti]; exact hlti)] at hf1
     obtain ⟨f1, rfl⟩ := hf1.opF
     have hro : ElP m10 gl (0 + i * 1) (.slice (some ⟨gr, 0, none⟩) n cr) := hbag'.el 0 (x := matArr gl n rows) rfl rfl (by show (rows.map (·.1))[i]? = _; rw [List.getElem?_map, hri]; rfl)
     have hre : ElP m10 gr (0 + i * 4) (fv f1) := hbag'.el (i + 1) (get_row hri) rfl he1
     have hoe : ElP m10 gO (0 + (n - k) * 4) (fv fo) := hbag'.el (n + 1 + 0) (get_next hrn rfl) rfl (by show (List.replicate (n - k) zF ++ es)[n - k]? = _; rw [List.getElem?_append_right (by simp)]; simpa using heo)
     refine G.addr gl 0 n n i 1 (by kernel_rfl) hlti ?_
     refine G.loadM none gl (0 + i * 1) _ (by kernel_rfl) (by kernel_rfl) hro ?_
     refine G.addr gl 0 n n i 1 (by kernel_rfl) hlti ?_
     refine G.loadM none gl (0 + i * 1) _ (by kernel_rfl) (by kernel_rfl) hro ?_
     refine G.addr gr 0 n cr i 4 (by kernel_rfl) hlti ?_
     refine G.loadM (some 4) gr (0 + i * 4) _ (by kernel_rfl) (by kernel_rfl) hre ?_
     refine G.sub (n : Int) ((k + 1 : Nat) : Int) ((n - (k + 1) : Nat) : Int) (by kernel_rfl) (by omega) (by omega) (by omega) ?_
     refine G.add ((n - (k + 1) : Nat) : Int) 1 ((n - k : Nat) : Int) (by kernel_rfl) (by omega) (by omega) (by omega) ?_
     refine G.addr gO 0 (n + 1) (n + 1) (n - k) 4 (by kernel_rfl) (by omega) ?_
     refine G.loadM (some 4) gO (0 + (n - k) * 4) _ (by kernel_rfl) (by kernel_rfl) hoe ?_
     have hs1 := hszd i i (Nat.le_refl _) hlti hlti
     refine G.call0 _ _ (by kernel_rfl) Tryz.call59 (fracAdd0 hf1 (hfo.mono l10) (hs1.mono (by omega)) (hsc.mono (by omega))) ?_
     intro v11 u11 l11 k11
     obtain ⟨f11, rfl⟩ := k11.opF
     have hs11 : Sz (gR (gM M' i) i + gR qs 0) (2 * B + 1) := (sz_add2 hs1 hsc).mono (by omega)
     obtain ⟨m0, hx, hput⟩ := hbag'.focus (i + 1) (get_row hri)
     rw [rowArr_at] at hx
     refine G.addr gr 0 n cr i 4 (by kernel_rfl) hlti ?_
     refine G.storeA 4 m0 res gr n cr i (fv f11) (by kernel_rfl) hx (by omega) rfl rfl ?_
     intro m12 hx12
     have hbag2 := hput (rowArr (.slice (some ⟨gr, 0, none⟩) n cr, res.set i (fv f11))) m12 hx12
     rw [set_row (by omega)] at hbag2
     have houter : (rows.set i (.slice (some ⟨gr, 0, none⟩) n cr, res.set i (fv f11))).map (·.1) = rows.map (·.1) := by
      rw [List.map_set]
      apply List.ext_getElem?
      intro j
      rw [List.getElem?_set]
      split
      ·rename_i e; subst e
       rw [if_pos (by simp; omega), List.getElem?_map, hri]; rfl
      ·rfl
     refine G.add (i : Int) 1 ((i + 1 : Nat) : Int) (by kernel_rfl) (by omega) (by omega) (by omega) ?_
     have hgs : ∀ a b, gR (gM (M'.set i ((gM M' i).set i (gR (gM M' i) i + gR qs 0))) a) b = if i = a then (if i = b then gR (gM M' i) i + gR qs 0 else gR (gM M' i) b) else gR (gM M' a) b := by
      intro a b
      rw [gM_set (by rw [hsq'.1]; exact hlti)]
      by_cases e : i = a
      ·rw [if_pos e, if_pos e, gR_set (by rw [hsq'.2 i hlti]; exact hlti)]
      ·rw [if_neg e, if_neg e]
     have hsqn := hsq'.set (i := i) hlti (q := (gM M' i).set i (gR (gM M' i) i + gR qs 0)) (by rw [List.length_set, hsq'.2 i hlti])
     refine G.back (by kernel_rfl) (hJ4 (i + 1, rows.set i (.slice (some ⟨gr, 0, none⟩) n cr, res.set i (fv f11)), M'.set i ((gM M' i).set i (gR (gM M' i) i + gR qs 0))) _ _ _ ⟨by kernel_rfl, by kernel_rfl, by kernel_rfl⟩ (l10.trans l11) ⟨by dsimp only; omega, ?_, hsqn, ?_, ?_, ?_, ?_⟩ (by dsimp only; omega))
     ·exact (hmat'.mono l11).set (by omega) ((hra.mono (fun _ _ h => h.mono l11)).set i k11)
     ·intro a b h1 h2
      dsimp only at h1 h2 ⊢
      rw [hsqn.1] at h1
      rw [hsqn.2 a h1] at h2
      rw [hgs]
      split
      ·split
       ·exact hs11
       ·exact hsz' i b (by rw [hsq'.1]; exact hlti) (by rw [hsq'.2 i hlti]; exact h2)
      ·exact hsz' a b (by rw [hsq'.1]; exact h1) (by rw [hsq'.2 a h1]; exact h2)
     ·intro a b h1 h2 h3
      dsimp only at h1 ⊢
      rw [hgs, if_neg (by omega)]
      exact hszd a b (by omega) h2 h3
     ·dsimp only
      rw [← hdg, show n - i = (n - (i + 1)) + 1 by omega, diagGo]
     ·dsimp only
      have : matArr gl n (rows.set i (.slice (some ⟨gr, 0, none⟩) n cr, res.set i (fv f11))) = matArr gl n rows := by unfold matArr; rw [houter]
      rw [this]; exact hbag2
    ·obtain rfl : i = n := by omega
     refine G.lssF (i : Int) (i : Int) (by kernel_rfl) (by omega) ?_
     rw [Nat.sub_self, diagGo] at hdg
     rw [hdg] at hmat' hsq' hsz'
     clear hszd hJ4 hszM hmat hsq hdg
     generalize hM1 : diagGo (gR qs 0) i 0 M = M1 at *
     generalize i = n at *
     have hrn : rows.length = n := by rw [hmat'.1, hsq'.1]
     obtain ⟨NB, hNB⟩ : ∃ NB, NB = 8 * B + 4 * T + 9 := ⟨_, rfl⟩
     obtain ⟨W, hW⟩ : ∃ W, W = T + (2 * B + 1) + 1 := ⟨_, rfl⟩
     have hbagN := hbag'.nils n
     refine G.make 81 1 24 (.slice none 0 0) n (by kernel_rfl) rfl rfl (by omega) (by omega) (by omega) ?_
     rintro v11 m11 hM11 ⟨aN, rfl⟩
     obtain ⟨gN, rfl, _⟩ := hM11.some'
     have hbag2 : Bag m11 (matArr gN n (List.replicate n nilRow) :: ((List.replicate n nilRow).map rowArr ++ (matArr gl n rows :: (rows.map rowArr ++ outArr (.slice (some ⟨gO, 0, none⟩) (n + 1) (n + 1)) (List.replicate (n - k) zF ++ es) :: gb)))) := by
      refine hbagN.add (x := matArr gN n (List.replicate n nilRow)) ?_
      rw [matArr_at, List.map_replicate]; exact hM11
     clear hbagN hM11 hbag'
     refine G.call0 _ _ (by kernel_rfl) Tryz.call60 (fracOf0 (z := 0) (by omega) (by omega)) ?_
     intro v12 u12 l12 k12
     rw [zero] at k12
     obtain ⟨f12, rfl⟩ := k12.opF
     refine G.loop (ι := Nat × List (Value × List Value) × List (List Rat) × F4 × Rat) (fun j => [(3, .v (.int .i64 (n : Int))), (4, .v (.slice a2 n c2)), (7, .v (.slice (some ⟨gO, 0, none⟩) (n + 1) (n + 1))), (8, .v (.slice (some ⟨gl, 0, none⟩) n n)), (10, .v (.int .i64 ((k + 1 : Nat) : Int))), (12, .v (.slice (some ⟨gN, 0, none⟩) n n)), (13, .p 25001 0), (90, .v (.int .i64 (n : Int))), (91, .v (.int .i64 (j.1 : Int)))])
      (fun j => [(25001, ⟨90, fc j.2.2.2.1⟩)])
      (fun j u' m' => j.1 ≤ n ∧ j.2.1.length = n ∧ j.2.2.1.length = j.1 ∧ (∀ x r, j.2.1[x]? = some r → if x < j.1 then AtP FracP u' r.2 (gM j.2.2.1 x) else r = nilRow) ∧ nextGo A M1 n (n - j.1) j.1 j.2.2.1 j.2.2.2.2 = nextGo A M1 n n 0 [] 0 ∧ (∀ x, x < j.1 → (gM j.2.2.1 x).length = n) ∧ SzM j.2.2.1 NB ∧ Sz j.2.2.2.2 (1 + j.1 * (NB + 1)) ∧ FracP u' (fv j.2.2.2.1) j.2.2.2.2 ∧
       Bag m' (matArr gN n j.2.1 :: (j.2.1.map rowArr ++ (matArr gl n rows :: (rows.map rowArr ++ outArr (.slice (some ⟨gO, 0, none⟩) (n + 1) (n + 1)) (List.replicate (n - k) zF ++ es) :: gb)))))
      (fun j => n - j.1) (0, List.replicate n nilRow, [], f12, 0) (by kernel_rfl) (fun _ => by kernel_rfl) ⟨by kernel_rfl, by kernel_rfl, by kernel_rfl⟩
      ⟨Nat.zero_le _, by simp, rfl, fun x r hx => by rw [if_neg (Nat.not_lt_zero _)]; exact List.eq_of_mem_replicate (List.mem_of_getElem? hx), rfl, fun x hx => absurd hx (Nat.not_lt_zero _), fun a b h1 _ => absurd h1 (Nat.not_lt_zero _), sz_zero.mono (by omega), k12, hbag2⟩ ?_
     clear hbag2
     rintro J5 ⟨i, nrows, N, tr, trq⟩ hJ5 u13 m13 l13 ⟨hi, hnn, hNl, hnrow, hnx, hNr, hszN, hstr, htr, hbag3⟩
     simp only at hi hnn hNl hnrow hnx hNr hszN hstr htr hbag3 hJ5
     have hlu : PH.le u10 u13 := l12.trans l13
     by_cases hlti : i < n
     ·refine G.lssT (i : Int) (n : Int) (by kernel_rfl) (by omega) ?_
      have hnil : nrows[i]? = some nilRow := by
       have hx := hnrow i nrows[i] (List.getElem?_eq_getElem (by omega))
       rw [if_neg (by omega)] at hx
       rw [List.getElem?_eq_getElem (by omega), hx]
      have hset0 : nrows.set i nilRow = nrows := by
       apply List.ext_getElem?
       intro x
       rw [List.getElem?_set]
       split
       ·rename_i e; subst e; rw [if_pos (by omega), hnil]
       ·rfl
      refine G.loop (ι := Nat × (Option Addr × Nat × Nat) × List Value × List Rat) (fun j => [(3, .v (.int .i64 (n : Int))), (4, .v (.slice a2 n c2)), (7, .v (.slice (some ⟨gO, 0, none⟩) (n + 1) (n + 1))), (8, .v (.slice (some ⟨gl, 0, none⟩) n n)), (10, .v (.int .i64 ((k + 1 : Nat) : Int))), (12, .v (.slice (some ⟨gN, 0, none⟩) n n)), (13, .p 25001 0), (90, .v (.int .i64 (n : Int))), (91, .v (.int .i64 (i : Int))), (14, .v (.int .i64 (i : Int))), (94, .v (.int .i64 (n : Int))), (95, .v (.int .i64 (j.1 : Int)))])
       (fun j => [(25001, ⟨90, fc tr⟩)])
       (fun j u' m' => j.1 ≤ n ∧ j.2.2.2.length = j.1 ∧ AtP FracP u' j.2.2.1 j.2.2.2 ∧ rowGo (gM A i) M1 n (n - j.1) j.1 j.2.2.2 = rowGo (gM A i) M1 n n 0 [] ∧ SzL j.2.2.2 NB ∧
        Bag m' (matArr gN n (nrows.set i (.slice j.2.1.1 j.2.1.2.1 j.2.1.2.2, j.2.2.1)) :: ((nrows.set i (.slice j.2.1.1 j.2.1.2.1 j.2.1.2.2, j.2.2.1)).map rowArr ++ (matArr gl n rows :: (rows.map rowArr ++ outArr (.slice (some ⟨gO, 0, none⟩) (n + 1) (n + 1)) (List.replicate (n - k) zF ++ es) :: gb)))))
       (fun j => n - j.1) (0, (none, 0, 0), [], []) (by kernel_rfl) (fun _ => by kernel_rfl) ⟨by kernel_rfl, by kernel_rfl, by kernel_rfl⟩
       ⟨Nat.zero_le _, rfl, AtP.nil, rfl, fun q hq => absurd hq (by simp), by dsimp only; rw [show ((Value.slice none 0 0, ([] : List Value)) : Value × List Value) = nilRow from rfl, hset0]; exact hbag3⟩ ?_
      rintro J6 ⟨j, ⟨ca, cn, cc⟩, ces, L⟩ hJ6 u14 m14 l14 ⟨hj, hLl, hcat, hrg, hszL, hbag4⟩
      simp only at hj hLl hcat hrg hszL hbag4 hJ6
      have hcl : ces.length = j := by rw [hcat.1, hLl]
      have hri : (nrows.set i (.slice ca cn cc, ces))[i]? = some (.slice ca cn cc, ces) := by rw [List.getElem?_set, if_pos rfl, if_pos (by omega)]
      have hcn : cn = ces.length := by
       obtain ⟨_, _, e⟩ := hbag4.shape (i + 1) (get_row hri)
       simp only [rowArr, Value.slice.injEq] at e
       exact e.2.1
      have hnl' : (nrows.set i (.slice ca cn cc, ces)).length = n := by simp [hnn]
      have hno : ElP m14 gN (0 + i * 1) (.slice ca cn cc) := hbag4.el 0 (x := matArr gN n _) rfl rfl (by show (List.map _ _)[i]? = _; rw [List.getElem?_map, hri]; rfl)
      by_cases hltj : j < n
      ·refine G.lssT (j : Int) (n : Int) (by kernel_rfl) (by omega) ?_
       refine G.call0 _ _ (by kernel_rfl) Tryz.call60 (fracOf0 (z := 0) (by omega) (by omega)) ?_
       intro v15 u15 l15 k15
       rw [zero] at k15
       obtain ⟨f15, rfl⟩ := k15.opF
       refine G.loop (ι := Nat × F4 × Rat) (fun x => [(3, .v (.int .i64 (n : Int))), (4, .v (.slice a2 n c2)), (7, .v (.slice (some ⟨gO, 0, none⟩) (n + 1) (n + 1))), (8, .v (.slice (some ⟨gl, 0, none⟩) n n)), (10, .v (.int .i64 ((k + 1 : Nat) : Int))), (12, .v (.slice (some ⟨gN, 0, none⟩) n n)), (13, .p 25001 0), (90, .v (.int .i64 (n : Int))), (91, .v (.int .i64 (i : Int))), (14, .v (.int .i64 (i : Int))), (94, .v (.int .i64 (n : Int))), (95, .v (.int .i64 (j : Int))), (15, .v (.int .i64 (j : Int))), (16, .p 32001 0), (99, .v (.int .i64 (n : Int))), (100, .v (.int .i64 (x.1 : Int)))])
        (fun x => [(25001, ⟨90, fc tr⟩), (32001, ⟨90, fc x.2.1⟩)])
        (fun x u' m' => x.1 ≤ n ∧ sumGo (gM A i) M1 j (n - x.1) x.1 x.2.2 = sumGo (gM A i) M1 j n 0 0 ∧ Sz x.2.2 (1 + x.1 * W) ∧ FracP u' (fv x.2.1) x.2.2 ∧ m' = m14)
        (fun x => n - x.1) (0, f15, 0) (by kernel_rfl) (fun _ => by kernel_rfl) ⟨by kernel_rfl, by kernel_rfl, by kernel_rfl⟩
        ⟨Nat.zero_le _, rfl, sz_zero.mono (by omega), k15, rfl⟩ ?_
       rintro J7 ⟨x, sm, smq⟩ hJ7 u16 m16 l16 ⟨hx, hsg, hszs, hsm, rfl⟩
       simp only at hx hsg hszs hsm hJ7
       have hxW : x * W ≤ 4 * W := Nat.mul_le_mul_right _ (by omega)
       by_cases hltx : x < n
       ·refine G.lssT (x : Int) (n : Int) (by kernel_rfl) (by omega) ?_
        have hl3 : PH.le u3 u16 := l5.trans (l8.trans (l9.trans (l10.trans (l12.trans (l13.trans (l14.trans (l15.trans l16)))))))
        obtain ⟨b1, o1, b2, o2, c3, fa, rfl, ea1, ea2, fa2⟩ := (hFM.mono hl3).cell (i := i) (j := x) (by omega) (by rw [hAl i (by omega)]; omega)
        rw [hAl i (by omega), hN] at ea1
        refine G.addr b1 o1 n c2 i 1 (by kernel_rfl) hlti ?_
        refine G.loadU none b1 (o1 + i * 1) _ (by kernel_rfl) (by kernel_rfl) ea1 ?_
        refine G.addr b2 o2 n c3 x 4 (by kernel_rfl) hltx ?_
        refine G.loadU (some 4) b2 (o2 + x * 4) _ (by kernel_rfl) (by kernel_rfl) ea2 ?_
        obtain ⟨⟨rv, res⟩, hrx, hra⟩ := hmat'.at (i := x) (by omega)
        have hrl' : res.length = n := by have := hra.1; rw [hsq'.2 x hltx] at this; exact this
        obtain ⟨gr, cr, e⟩ := hbag4.ptr (n + 1 + (x + 1)) (get_next hnl' (get_row hrx)) (by intro e; simp only [rowArr] at e; rw [e] at hrl'; simp at hrl'; omega)
        simp only [rowArr] at e
        rw [hrl'] at e
        subst e
        obtain ⟨e1, he1, hf1⟩ := hra.at (j := j) (by rw [hsq'.2 x hltx]; exact hltj)
        rw [← gR_at (by rw [hsq'.2 x hltx]; exact hltj)] at hf1
        obtain ⟨f1, rfl⟩ := hf1.opF
        have hro : ElP m16 gl (0 + x * 1) (.slice (some ⟨gr, 0, none⟩) n cr) := hbag4.el (n + 1 + 0) (x := matArr gl n rows) (get_next hnl' rfl) rfl (by show (rows.map (·.1))[x]? = _; rw [List.getElem?_map, hrx]; rfl)
        have hre : ElP m16 gr (0 + j * 4) (fv f1) := hbag4.el (n + 1 + (x + 1)) (get_next hnl' (get_row hrx)) rfl he1
        refine G.addr gl 0 n n x 1 (by kernel_rfl) hltx ?_
        refine G.loadM none gl (0 + x * 1) _ (by kernel_rfl) (by kernel_rfl) hro ?_
        refine G.addr gr 0 n cr j 4 (by kernel_rfl) hltj ?_
        refine G.loadM (some 4) gr (0 + j * 4) _ (by kernel_rfl) (by kernel_rfl) hre ?_
        have hsA := hA' i x (by omega) (by rw [hAl i (by omega)]; omega)
        have hsM := hsz' x j (by rw [hsq'.1]; exact hltx) (by rw [hsq'.2 x hltx]; exact hltj)
        have hsP := sz_mul2 hsA hsM
        refine G.call0 _ _ (by kernel_rfl) Tryz.call93 (fracMul0 fa2 (hf1.mono (l12.trans (l13.trans (l14.trans (l15.trans l16))))) (hsA.mono (by omega)) (hsM.mono (by omega))) ?_
        intro v17 u17 l17 k17
        obtain ⟨f17, rfl⟩ := k17.opF
        refine G.call0 _ _ (by kernel_rfl) Tryz.call59 (fracAdd0 (hsm.mono l17) k17 (hszs.mono (by omega)) (hsP.mono (by omega))) ?_
        intro v18 u18 l18 k18
        obtain ⟨f18, rfl⟩ := k18.opF
        refine G.add (x : Int) 1 ((x + 1 : Nat) : Int) (by kernel_rfl) (by omega) (by omega) (by omega) ?_
        refine G.back (by kernel_rfl) (hJ7 (x + 1, f18, smq + gR (gM A i) x * gR (gM M1 x) j) _ _ _ ⟨by kernel_rfl, by kernel_rfl, by kernel_rfl⟩ ((l16.trans l17).trans l18) ⟨by dsimp only; omega, ?_, ?_, k18, rfl⟩ (by dsimp only; omega))
        ·dsimp only
         rw [← hsg, show n - x = (n - (x + 1)) + 1 by omega, sumGo]
        ·dsimp only
         refine (sz_add2 hszs hsP).mono ?_
         have e := Nat.succ_mul x W
         simp only [Nat.succ_eq_add_one] at e
         omega
       ·obtain rfl : x = n := by omega
        refine G.lssF (x : Int) (x : Int) (by kernel_rfl) (by omega) ?_
        rw [Nat.sub_self, sumGo] at hsg
        have hszf : Sz smq NB := hszs.mono (by omega)
        rw [hsg] at hszf hsm
        subst hcn
        refine G.addr gN 0 x x i 1 (by kernel_rfl) hlti ?_
        refine G.loadM none gN (0 + i * 1) _ (by kernel_rfl) (by kernel_rfl) hno ?_
        refine G.buildU 90 4 64 zF [fv sm] (by kernel_rfl) (fv_ok sm) rfl (by omega) (by simp) (by simp) ?_
        intro g17 u17 l17 e17
        obtain ⟨m0, hx0, hput⟩ := hbag4.focus (i + 1) (get_row hri)
        rw [rowArr_at] at hx0
        refine G.append 90 4 64 zF m0 ces [fv sm] (.slice ca ces.length cc) g17 0 1 1 (by kernel_rfl) rfl rfl (by omega) hx0 e17 (fv_ok sm) rfl (by omega) (by omega) (by omega) ?_
        intro v18 m18 hx18
        obtain ⟨a18, c18, rfl⟩ := hx18.shape
        have hbag5 := hput (rowArr (.slice a18 (ces ++ [fv sm]).length c18, ces ++ [fv sm])) m18 hx18
        rw [set_row (by omega)] at hbag5
        obtain ⟨m0', hx1, hput1⟩ := hbag5.focus 0 rfl
        rw [matArr_at] at hx1
        refine G.addr gN 0 x x i 1 (by kernel_rfl) hlti ?_
        refine G.storeA 1 m0' _ gN x x i (.slice a18 (ces ++ [fv sm]).length c18) (by kernel_rfl) hx1 (by simp [hnn, hlti]) rfl rfl ?_
        intro m19 hx19
        have hbag6 := hput1 (matArr gN x ((nrows.set i (.slice ca ces.length cc, ces)).set i (.slice a18 (ces ++ [fv sm]).length c18, ces ++ [fv sm]))) m19 (by
         rw [matArr_at, List.map_set]; exact hx19)
        rw [List.set_cons_zero, List.set_set] at hbag6
        refine G.add (j : Int) 1 ((j + 1 : Nat) : Int) (by kernel_rfl) (by omega) (by omega) (by omega) ?_
        refine G.back (by kernel_rfl) (hJ6 (j + 1, (a18, (ces ++ [fv sm]).length, c18), ces ++ [fv sm], L ++ [sumGo (gM A i) M1 j x 0 0]) _ _ _ ⟨by kernel_rfl, by kernel_rfl, by kernel_rfl⟩ (((l14.trans l15).trans l16).trans l17) ⟨by dsimp only; omega, by dsimp only; simp [hLl], ?_, ?_, ?_, hbag6⟩ (by dsimp only; omega))
        ·exact (hcat.mono (fun _ _ h => h.mono ((l15.trans l16).trans l17))).snoc (hsm.mono l17)
        ·dsimp only
         rw [← hrg, show x - j = (x - (j + 1)) + 1 by omega, rowGo]
        ·intro q hq
         rcases List.mem_append.1 hq with hq | hq
         ·exact hszL q hq
         ·simp at hq; subst hq; exact hszf
      ·obtain rfl : j = n := by omega
       refine G.lssF (j : Int) (j : Int) (by kernel_rfl) (by omega) ?_
       rw [Nat.sub_self, rowGo] at hrg
       subst hcn
       obtain ⟨gr, cr, e⟩ := hbag4.ptr (i + 1) (get_row hri) (by intro e; simp only [rowArr] at e; rw [e] at hcl; simp at hcl; omega)
       simp only [rowArr, Value.slice.injEq] at e
       obtain ⟨rfl, _, rfl⟩ := e
       rw [hcl] at hno
       obtain ⟨e1, he1, hf1⟩ := hcat.at (j := i) (by omega)
       rw [← gR_at (by omega)] at hf1
       obtain ⟨f1, rfl⟩ := hf1.opF
       have hre : ElP m14 gr (0 + i * 4) (fv f1) := hbag4.el (i + 1) (get_row hri) rfl he1
       refine G.addr gN 0 j j i 1 (by kernel_rfl) hlti ?_
       refine G.loadM none gN (0 + i * 1) _ (by kernel_rfl) (by kernel_rfl) hno ?_
       refine G.addr gr 0 j cc i 4 (by kernel_rfl) hlti ?_
       refine G.loadM (some 4) gr (0 + i * 4) _ (by kernel_rfl) (by kernel_rfl) hre ?_
       have hsL : Sz (gR L i) NB := hszL.at (by omega)
       have hiN : i * (NB + 1) ≤ 4 * (NB + 1) := Nat.mul_le_mul_right _ (by omega)
       refine G.call0 _ _ (by kernel_rfl) Tryz.call59 (fracAdd0 (htr.mono l14) hf1 (hstr.mono (by omega)) (hsL.mono (by omega))) ?_
       intro v15 u15 l15 k15
       obtain ⟨f15, rfl⟩ := k15.opF
       refine G.add (i : Int) 1 ((i + 1 : Nat) : Int) (by kernel_rfl) (by omega) (by omega) (by omega) ?_
       have hgN : ∀ x, gM (N ++ [L]) x = if x < i then gM N x else if x = i then L else [] := by
        intro x
        unfold gM
        rw [List.getD_eq_getElem?_getD]
        by_cases h1 : x < i
        ·rw [if_pos h1, List.getElem?_append_left (by omega), List.getD_eq_getElem?_getD]
        ·rw [if_neg h1, List.getElem?_append_right (by omega), hNl]
         by_cases h2 : x = i
         ·rw [if_pos h2, h2, Nat.sub_self]; rfl
         ·rw [if_neg h2, List.getElem?_eq_none (by simp; omega)]; rfl
       refine G.back (by kernel_rfl) (hJ5 (i + 1, nrows.set i (.slice (some ⟨gr, 0, none⟩) ces.length cc, ces), N ++ [L], f15, trq + gR L i) _ _ _ ⟨by kernel_rfl, by kernel_rfl, by kernel_rfl⟩ ((l13.trans l14).trans l15) ⟨by dsimp only; omega, by dsimp only; simp [hnn], by dsimp only; simp [hNl], ?_, ?_, ?_, ?_, ?_, k15, hbag4⟩ (by dsimp only; omega))
       ·intro x r hxr
        dsimp only at hxr ⊢
        rw [hgN]
        rw [List.getElem?_set] at hxr
        by_cases e : i = x
        ·subst e
         rw [if_pos rfl, if_pos (by omega)] at hxr
         simp only [Option.some.injEq] at hxr
         rw [if_pos (by omega), if_neg (by omega), if_pos rfl, ← hxr]
         exact hcat.mono (fun _ _ h => h.mono l15)
        ·rw [if_neg e] at hxr
         have := hnrow x r hxr
         by_cases hxi : x < i
         ·rw [if_pos hxi] at this
          rw [if_pos (by omega), if_pos hxi]
          exact this.mono (fun _ _ h => h.mono (l14.trans l15))
         ·rw [if_neg hxi] at this
          rw [if_neg (by omega)]; exact this
       ·dsimp only
        rw [← hnx, show j - i = (j - (i + 1)) + 1 by omega, nextGo, ← hrg]
       ·intro x hx
        dsimp only at hx ⊢
        rw [hgN]
        by_cases hxi : x < i
        ·rw [if_pos hxi]; exact hNr x hxi
        ·rw [if_neg hxi, if_pos (by omega)]; exact hLl
       ·intro x y h1 h2
        dsimp only at h1 h2 ⊢
        rw [hgN] at h2 ⊢
        by_cases hxi : x < i
        ·rw [if_pos hxi] at h2 ⊢; exact hszN x y (by omega) h2
        ·have : x = i := by simp [hNl] at h1; omega
         rw [if_neg hxi, if_pos this] at h2 ⊢; exact hszL.at h2
       ·dsimp only
        refine (sz_add2 hstr hsL).mono ?_
        have e := Nat.succ_mul i (NB + 1)
        simp only [Nat.succ_eq_add_one] at e
        omega
     ·obtain rfl : i = n := by omega
      refine G.lssF (i : Int) (i : Int) (by kernel_rfl) (by omega) ?_
      rw [Nat.sub_self, nextGo] at hnx
      refine G.sub (i : Int) ((k + 1 : Nat) : Int) ((i - (k + 1) : Nat) : Int) (by kernel_rfl) (by omega) (by omega) (by omega) ?_
      refine G.neg ((k + 1 : Nat) : Int) (-((k + 1 : Nat) : Int)) (by kernel_rfl) rfl (by omega) (by omega) ?_
      refine G.call0 _ _ (by kernel_rfl) Tryz.call60 (fracOf0 (z := -((k + 1 : Nat) : Int)) (by omega) (by omega)) ?_
      intro v14 u14 l14 k14
      obtain ⟨f14, rfl⟩ := k14.opF
      have hiN : i * (NB + 1) ≤ 4 * (NB + 1) := Nat.mul_le_mul_right _ (by omega)
      have hnz : ((-((k + 1 : Nat) : Int) : Int) : Rat) ≠ 0 := by
       intro e
       have := Rat.intCast_eq_zero_iff.1 e
       omega
      have hsk : Sz ((-((k + 1 : Nat) : Int) : Int) : Rat) 1 := sz_one (by omega)
      refine G.call0 _ _ (by kernel_rfl) Tryz.call63 (fracDiv0 (htr.mono l14) k14 (hstr.mono (by omega)) (hsk.mono (by omega)) hnz) ?_
      intro v15 u15 l15 k15
      obtain ⟨f15, rfl⟩ := k15.opF
      have hsd := sz_div hstr hsk hnz
      obtain ⟨m0, hx0, hput⟩ := hbag3.focus (i + 1 + (i + 1 + 0)) (get_next hnn (get_next hrn rfl))
      rw [outArr_at] at hx0
      refine G.addr gO 0 (i + 1) (i + 1) (i - (k + 1)) 4 (by kernel_rfl) (by omega) ?_
      refine G.storeA 4 m0 _ gO (i + 1) (i + 1) (i - (k + 1)) (fv f15) (by kernel_rfl) hx0 (by simp; omega) rfl rfl ?_
      intro m16 hx16
      have hset : (List.replicate (i - k) zF ++ es).set (i - (k + 1)) (fv f15) = List.replicate (i - (k + 1)) zF ++ (fv f15 :: es) := by
       rw [show i - k = (i - (k + 1)) + 1 by omega, List.replicate_succ', List.append_assoc, List.set_append_right _ _ (by simp)]
       simp
      rw [hset] at hx16
      have hbag4 := hput (outArr (.slice (some ⟨gO, 0, none⟩) (i + 1) (i + 1)) (List.replicate (i - (k + 1)) zF ++ (fv f15 :: es))) m16 hx16
      rw [set_next hnn, set_next hrn] at hbag4
      have hperm : Bag m16 (matArr gN i nrows :: (nrows.map rowArr ++ outArr (.slice (some ⟨gO, 0, none⟩) (i + 1) (i + 1)) (List.replicate (i - (k + 1)) zF ++ (fv f15 :: es)) :: (matArr gl i rows :: (rows.map rowArr ++ gb)))) := by
       refine Bag.perm ?_ hbag4
       refine List.Perm.cons _ (List.Perm.append_left _ ?_)
       rw [List.set_cons_zero]
       exact (List.Perm.cons _ List.perm_middle).trans (List.Perm.swap _ _ _)
      refine G.add ((k + 1 : Nat) : Int) 1 ((k + 1 + 1 : Nat) : Int) (by kernel_rfl) (by omega) (by omega) (by omega) ?_
      have e2 : nextGo A M1 i i 0 [] 0 = (N, trq) := hnx.symm
      refine G.back (by kernel_rfl) (hJ3 ⟨k + 1, gN, nrows, N, fv f15 :: es, trq / ((-((k + 1 : Nat) : Int) : Int) : Rat) :: qs, matArr gl i rows :: (rows.map rowArr ++ gb)⟩ _ _ _ ⟨by kernel_rfl, by kernel_rfl, by kernel_rfl⟩ (((((l9.trans l10).trans l12).trans l13).trans l14).trans l15) ⟨by dsimp only; omega, by dsimp only; simp [hql], ?_, ?_, ?_, ?_, ?_, ?_, hperm⟩ (by dsimp only; omega))
      ·refine ⟨by simp [hell], fun x q hxq => ?_⟩
       cases x with
       | zero =>
        simp only [List.getElem?_cons_zero, Option.some.injEq] at hxq
        subst hxq
        exact ⟨fv f15, rfl, k15⟩
       | succ x =>
        simp only [List.getElem?_cons_succ] at hxq
        obtain ⟨e, h1, h2⟩ := hat.2 x q hxq
        exact ⟨e, by simpa using h1, h2.mono ((((l10.trans l12).trans l13).trans l14).trans l15)⟩
      ·refine ⟨by dsimp only; omega, fun x r hxr => ?_⟩
       dsimp only at hxr ⊢
       have hxl : x < i := by
        rcases Nat.lt_or_ge x nrows.length with h' | h'
        ·omega
        ·rw [List.getElem?_eq_none h'] at hxr; cases hxr
       have := hnrow x r hxr
       rw [if_pos hxl] at this
       exact this.mono (fun _ _ h => h.mono (l14.trans l15))
      ·exact ⟨hNl, hNr⟩
      ·dsimp only; rw [hB1]; exact hszN.mono (by omega)
      ·intro q hq
       dsimp only
       rw [hB1]
       rcases List.mem_cons.1 hq with rfl | hq
       ·exact hsd.mono (by omega)
       ·exact (hszq q hq).mono (by omega)
      ·dsimp only
       rw [← hgo, show i - k = (i - (k + 1)) + 1 by omega, charGo, hM1, e2]
   ·obtain rfl : k = n := by omega
    refine G.leqF ((k + 1 : Nat) : Int) (k : Int) (by kernel_rfl) (by omega) ?_
    rw [Nat.sub_self, charGo] at hgo
    have hrn : lrows.length = k := by rw [hmat.1, hsq.1]
    obtain ⟨m0, hx, _⟩ := hbag.take (k + 1 + 0) (get_next hrn rfl)
    rw [outArr_at, Nat.sub_self, List.replicate_zero, List.nil_append] at hx
    refine G.give m0 es _ (by kernel_rfl) hx (fun _ => .inl rfl) ?_
    intro u10 l10 hL
    refine G.drop PH.mt (by kernel_rfl) (PH.mt_le _) ?_
    rw [hgo] at hat hszq
    exact G.ret (.slice (some ⟨gO, 0, none⟩) (k + 1) (k + 1)) (by kernel_rfl) ⟨rfl, ⟨es, hL, hat.mono (fun _ _ h => h.mono l10)⟩, hszq⟩
end Go.Proofs.YtldokelpolbnnaaGreatDoor
end
section
set_option linter.unusedSectionVars false
set_option linter.unusedVariables false
namespace Go.Proofs.YtldokelpolbnnaaGreatDoor
open Go.RowKit
theorem charGo_length (A : List (List Rat)) (n : Nat) : ∀ (f k : Nat) (M : List (List Rat)) (out : List Rat), (charGo A n f k M out).length = f + out.length
 | 0, _, _, out => by simp [charGo]
 | f + 1, k, M, out => by rw [charGo, charGo_length A n f]; simp; omega
theorem charL_length (A : List (List Rat)) : (charL A).length = A.length + 1 := by rw [charL, charGo_length]; rfl
theorem charGo_last (A : List (List Rat)) (n : Nat) : ∀ (f k : Nat) (M : List (List Rat)) (out : List Rat), out ≠ [] → (charGo A n f k M out).getLast? = out.getLast?
 | 0, _, _, out, _ => rfl
 | f + 1, k, M, out, h => by
  rw [charGo, charGo_last A n f _ _ _ (by simp)]
  cases out with
  | nil => exact absurd rfl h
  | cons x l => rw [List.getLast?_cons_cons]
theorem charL_last (A : List (List Rat)) : gR (charL A) A.length = 1 := by
 have h := charGo_last A A.length A.length 1 (List.replicate A.length (List.replicate A.length 0)) [1] (by simp)
 rw [show charGo A A.length A.length 1 (List.replicate A.length (List.replicate A.length 0)) [1] = charL A from rfl, List.getLast?_eq_getElem?, charL_length] at h
 simp at h
 simp [gR, h]
theorem hor_last (x : Rat) (i : Nat) : ∀ (k : Nat) (l : List Rat), k < l.length → gR (horGo x i k l) (l.length - 1) = gR l (l.length - 1)
 | 0, l, _ => rfl
 | k + 1, l, h => by
  unfold horGo
  split
  ·rfl
  ·have := hor_last x i k (l.set k (gR l k + x * gR l (k + 1))) (by simp; omega)
   rw [List.length_set] at this
   rw [this, gR_set (by omega), if_neg (by omega)]
theorem shift_last (x : Rat) : ∀ (f i : Nat) (l : List Rat), l ≠ [] → gR (shiftGo x f i l) (l.length - 1) = gR l (l.length - 1)
 | 0, _, l, _ => rfl
 | f + 1, i, l, h => by
  have hp := List.length_pos_iff.2 h
  have := shift_last x f (i + 1) (horGo x i (l.length - 1) l) (by intro e; have := horGo_length x i (l.length - 1) l; rw [e] at this; simp at this; omega)
  rw [horGo_length] at this
  rw [shiftGo, this, hor_last x i _ l (by omega)]
theorem zer_lt_len {l : List Rat} (h : l ≠ []) (hl : gR l (l.length - 1) ≠ 0) : zer l < l.length := by
 have hp := List.length_pos_iff.2 h
 rcases Nat.lt_or_ge (zer l) l.length with h1 | h1
 ·exact h1
 ·exact absurd (zer_lt (by omega)) hl
theorem zer_shift {p : List Rat} (x : Rat) (h : p ≠ []) (hl : gR p (p.length - 1) ≠ 0) : zer (shiftL x p) < p.length := by
 have h1 := shiftL_length x p
 have h2 := shift_last x p.length 0 p h
 have := zer_lt_len (l := shiftL x p) (by intro e; rw [e] at h1; simp at h1; exact h (List.eq_nil_of_length_eq_zero h1.symm)) (by rw [h1]; unfold shiftL; rw [h2]; exact hl)
 omega
theorem char_zer (A : List (List Rat)) (x : Rat) : zer (shiftL x (charL A)) < (charL A).length := by
 refine zer_shift x (by intro e; have := charL_length A; rw [e] at this; simp at this) ?_
 rw [charL_length, Nat.add_sub_cancel, charL_last]; decide
theorem less_abs (p : List Rat) (x : Rat) (h : p.length ≤ 5) : -20 ≤ lessL p x ∧ lessL p x ≤ 20 := by
 have h1 := var_le (shiftL x p)
 have h2 := zer_le (shiftL x p)
 rw [shiftL_length] at h1 h2
 unfold lessL; omega
theorem equal_abs (p : List Rat) (x : Rat) (h : p.length ≤ 5) : equalL p x ≤ 5 := by
 have h2 := zer_le (shiftL x p)
 rw [shiftL_length] at h2
 unfold equalL; omega
set_option maxHeartbeats 1000000 in
theorem within0 {u : PH} {v y z : Value} {p : List Rat} {lo hi : Rat} {S T : Nat} (h : FracsP u v p) (hy : FracP u y lo) (hz : FracP u z hi) (hs : SzL p S) (hx : Sz lo T) (hx' : Sz hi T) (hST : S + T + 1 ≤ 500000) (hn : p.length ≤ 5) (h0 : p ≠ []) (hl : gR p (p.length - 1) ≠ 0) :
  Fn0 Tryz.prog 62 [v, y, z] u fun v' _ => v' = .int .i64 (withinL p lo hi) := by
 obtain ⟨a, c, rfl⟩ := h.opn
 obtain ⟨fy, rfl⟩ := hy.opF
 obtain ⟨fz, rfl⟩ := hz.opF
 have b1 := less_abs p lo hn
 have b2 := less_abs p hi hn
 have b3 := equal_abs p lo hn
 have b4 := equal_abs p hi hn
 refine Fn0.of Tryz.func62 (by kernel_rfl) (by kernel_rfl) ?_
 refine G.call0 _ _ (by kernel_rfl) Tryz.call49 (below0 (y := fv fy) h hy hs hx hST hn (zer_shift lo h0 hl)) ?_
 rintro v1 u1 l1 rfl
 refine G.call0 _ _ (by kernel_rfl) Tryz.call49 (below0 (y := fv fz) (h.mono l1) (hz.mono l1) hs hx' hST hn (zer_shift hi h0 hl)) ?_
 rintro v2 u2 l2 rfl
 refine G.add (lessL p hi) (equalL p hi : Int) (lessL p hi + (equalL p hi : Int)) (by kernel_rfl) rfl (by omega) (by omega) ?_
 refine G.sub (lessL p hi + (equalL p hi : Int)) (lessL p lo) (lessL p hi + (equalL p hi : Int) - lessL p lo) (by kernel_rfl) rfl (by omega) (by omega) ?_
 refine G.sub (lessL p hi + (equalL p hi : Int) - lessL p lo) (equalL p lo : Int) (withinL p lo hi) (by kernel_rfl) rfl (by unfold withinL; omega) (by unfold withinL; omega) ?_
 exact G.ret _ (by kernel_rfl) ⟨rfl, rfl⟩
structure Nice (A : List (List Rat)) (T : Nat) : Prop where
 sq : Sq A
 sym : SymM A
 le : A.length ≤ 4
 tle : T ≤ 400
 sz : ∀ r ∈ A, SzL r T
 light : ∃ L K, 6 * K ≤ 600 ∧ Light A L K
theorem Nice.large {u : PH} {v : Value} {A : List (List Rat)} {T : Nat} (hA : Nice A T) (ht : TabU u) (h : MatP u v (matT A)) : Fn0 Tryz.prog 44 [v] u fun v' _ => v' = .bool false := by
 obtain ⟨L, K, hK, hL⟩ := hA.light
 have hle := hA.le
 exact large0 ht h hA.sq.tx (by omega) (fun r hr => by rw [hA.sq.row r hr]; omega) hK hL
theorem polynomial0 {u : PH} {v : Value} {A : List (List Rat)} {T : Nat} (ht : TabU u) (h : MatP u v (matT A)) (hA : Nice A T) (htx : ∀ q ∈ charL A, Tx q) :
  Fn0 Tryz.prog 16 [v] u fun v' u' => ∃ r, v' = .tuple #[r, .int .i64 0] ∧ StrsP u' r ((charL A).map ratT) := by
 have hbe := fun (u' : PH) (v : Value) (hv : MatP u' v (matT A)) => begin0 hv hA.sq hA.sym
 have hla := fun (u' : PH) (v : Value) (ht' : TabU u') (hv : MatP u' v (matT A)) => hA.large ht' hv
 have hch := fun (u' : PH) (v : Value) (hv : MatP u' v (matT A)) => char0 hv hA.sq hA.le hA.tle hA.sz
 obtain ⟨a, c, rfl⟩ := h.opn
 refine Fn0.of Tryz.func16 (by kernel_rfl) (by kernel_rfl) ?_
 refine G.call0 _ _ (by kernel_rfl) Tryz.call42 (hbe _ _ h) ?_
 rintro v1 u1 l1 rfl
 refine G.neqF 0 0 (by kernel_rfl) (by omega) ?_
 refine G.call0 _ _ (by kernel_rfl) Tryz.call44 (hla _ _ (ht.mono l1) (h.mono l1)) ?_
 rintro v2 u2 l2 rfl
 refine G.call0 _ _ (by kernel_rfl) Tryz.call48 (hch _ _ (h.mono (l1.trans l2))) ?_
 rintro v3 u3 l3 ⟨k3, _⟩
 obtain ⟨a3, c3, rfl⟩ := k3.opn
 refine G.call0 _ _ (by kernel_rfl) Tryz.call51 (fracTexts0 (ht.mono ((l1.trans l2).trans l3)) k3 htx (by rw [charL_length]; have := hA.le; omega)) ?_
 rintro v4 u4 l4 ⟨r, rfl, hr⟩
 obtain ⟨a4, c4, rfl⟩ := ListP.opn hr
 exact G.ret _ (by kernel_rfl) ⟨rfl, _, rfl, hr⟩
structure NiceX (x : Rat) (n T : Nat) : Prop where
 tx : Tx x
 sz : Sz x T
 light : ∃ L K, 6 * K ≤ 600 ∧ Light ((List.replicate n x).map fun q => [q]) L K
theorem strs_rep (t : List UInt8) (n : Nat) : List.replicate n (Value.string (mkS t)) = strsV (List.replicate n t) := by simp [strsV]
set_option maxHeartbeats 1000000 in
theorem belowG {u : PH} {v : Value} {A : List (List Rat)} {T T' S : Nat} {x : Rat} (ht : TabU u) (h : MatP u v (matT A)) (hA : Nice A T) (hx : NiceX x A.length T') (hSS : SzL (charL A) (cb T A.length) → SzL (charL A) S) (hST : S + T' + 1 ≤ 500000) :
  Fn0 Tryz.prog 15 [v, .string (mkS (ratT x))] u fun v' _ => v' = .tuple #[.int .i64 (lessL (charL A) x), .int .i64 (equalL (charL A) x : Int), .int .i64 0] := by
 have hbe := fun (u' : PH) (v : Value) (hv : MatP u' v (matT A)) => begin0 hv hA.sq hA.sym
 have hla := fun (u' : PH) (v : Value) (ht' : TabU u') (hv : MatP u' v (matT A)) => hA.large ht' hv
 have hch := fun (u' : PH) (v : Value) (hv : MatP u' v (matT A)) => char0 hv hA.sq hA.le hA.tle hA.sz
 have hle := hA.le
 have hz := char_zer A x
 have hcl := charL_length A
 obtain ⟨L, K, hK, hL⟩ := hx.light
 obtain ⟨a, c, rfl⟩ := h.opn
 rw [matT_length] at h ⊢
 refine Fn0.of Tryz.func15 (by kernel_rfl) (by kernel_rfl) ?_
 refine G.call0 _ _ (by kernel_rfl) Tryz.call42 (hbe _ _ h) ?_
 rintro v1 u1 l1 rfl
 refine G.neqF 0 0 (by kernel_rfl) (by omega) ?_
 refine G.call0 _ _ (by kernel_rfl) Tryz.call43 (ratValid0 hx.tx) ?_
 rintro v2 u2 l2 rfl
 refine G.call0 _ _ (by kernel_rfl) Tryz.call44 (hla _ _ (ht.mono (l1.trans l2)) (h.mono (l1.trans l2))) ?_
 rintro v3 u3 l3 rfl
 refine G.buildU 34 1 16 (.string (mkS [])) [.string (mkS (ratT x))] (by kernel_rfl) (strsV_ok [ratT x]) rfl (by omega) (by simp) (by simp) ?_
 intro g4 u4 l4 e4
 have hLP : ListP u4 (.slice (some ⟨g4, 0, none⟩) 1 1) 1 [.string (mkS (ratT x))] := ⟨_, 1, rfl, Nat.le_refl _, fun j e hj => ⟨g4, 0, rfl, e4 j e hj⟩⟩
 refine G.call0 _ _ (by kernel_rfl) Tryz.call47 (repeatS0 (n := A.length) hLP (strsV_ok [ratT x]) (by omega)) ?_
 intro v5 u5 l5 k5
 rw [strs_rep] at k5
 obtain ⟨a5, c5, rfl⟩ := ListP.opn k5
 refine G.call0 _ _ (by kernel_rfl) Tryz.call46 (column0 k5 (by rw [List.length_replicate]; omega)) ?_
 intro v6 u6 l6 k6
 have e6 : (List.replicate A.length (ratT x)).map (fun t => [t]) = matT ((List.replicate A.length x).map fun q => [q]) := by simp [matT]
 rw [e6] at k6
 have hl6 : PH.le u u6 := ((((l1.trans l2).trans l3).trans l4).trans l5).trans l6
 have hhe := fun (v : Value) (hv : MatP u6 v (matT ((List.replicate A.length x).map fun q => [q]))) => heavy0 (N := 6) (ht.mono hl6) hv (fun r hr q hq => by
   simp only [List.map_replicate] at hr
   have := List.eq_of_mem_replicate hr
   subst this
   simp at hq; subst hq; exact hx.tx) (by simp; omega) (fun r hr => by
   simp only [List.map_replicate] at hr
   have := List.eq_of_mem_replicate hr
   subst this; simp) (by omega) hK (by omega) hL.den hL.pos hL.nl hL.dig
 obtain ⟨a6, c6, rfl⟩ := k6.opn
 refine G.call0 _ _ (by kernel_rfl) Tryz.call45 (hhe _ k6) ?_
 rintro v7 u7 l7 rfl
 have hl7 := hl6.trans l7
 refine G.call0 _ _ (by kernel_rfl) Tryz.call48 (hch _ _ (h.mono hl7)) ?_
 rintro v8 u8 l8 ⟨k8, s8⟩
 obtain ⟨a8, c8, rfl⟩ := k8.opn
 refine G.call0 _ _ (by kernel_rfl) Tryz.call50 (fracRead0 hx.tx) ?_
 intro v9 u9 l9 k9
 obtain ⟨f9, rfl⟩ := k9.opF
 refine G.call0 _ _ (by kernel_rfl) Tryz.call49 (below0 (k8.mono l9) k9 (hSS s8) hx.sz hST (by omega) hz) ?_
 rintro v10 u10 l10 rfl
 exact G.ret _ (by kernel_rfl) ⟨rfl, rfl⟩
theorem belowM0 {u : PH} {v : Value} {A : List (List Rat)} {T T' : Nat} {x : Rat} (ht : TabU u) (h : MatP u v (matT A)) (hA : Nice A T) (hx : NiceX x A.length T') (hST : cb T A.length + T' + 1 ≤ 500000) :
  Fn0 Tryz.prog 15 [v, .string (mkS (ratT x))] u fun v' _ => v' = .tuple #[.int .i64 (lessL (charL A) x), .int .i64 (equalL (charL A) x : Int), .int .i64 0] := belowG ht h hA hx id hST
theorem upToG {u : PH} {v : Value} {A : List (List Rat)} {T T' S : Nat} {x : Rat} (ht : TabU u) (h : MatP u v (matT A)) (hA : Nice A T) (hx : NiceX x A.length T') (hSS : SzL (charL A) (cb T A.length) → SzL (charL A) S) (hST : S + T' + 1 ≤ 500000) :
  Fn0 Tryz.prog 65 [v, .string (mkS (ratT x))] u fun v' _ => v' = .tuple #[.int .i64 (lessL (charL A) x + (equalL (charL A) x : Int)), .bool true] := by
 have hb := fun (v : Value) (hv : MatP u v (matT A)) => belowG ht hv hA hx hSS hST
 have hle := hA.le
 have b1 := less_abs (charL A) x (by rw [charL_length]; omega)
 have b3 := equal_abs (charL A) x (by rw [charL_length]; omega)
 obtain ⟨a, c, rfl⟩ := h.opn
 refine Fn0.of Tryz.func65 (by kernel_rfl) (by kernel_rfl) ?_
 refine G.call0 _ _ (by kernel_rfl) Tryz.call15 (hb _ h) ?_
 rintro v1 u1 l1 rfl
 refine G.add (lessL (charL A) x) (equalL (charL A) x : Int) (lessL (charL A) x + (equalL (charL A) x : Int)) (by kernel_rfl) rfl (by omega) (by omega) ?_
 refine G.eqlT 0 0 (by kernel_rfl) rfl ?_
 exact G.ret _ (by kernel_rfl) ⟨rfl, rfl⟩
end Go.Proofs.YtldokelpolbnnaaGreatDoor
end
section
set_option linter.unusedSectionVars false
set_option linter.unusedVariables false
namespace Go.Proofs.YtldokelpolbnnaaGreatDoor
open Go.RowKit
def rb (S : Nat) : Nat → Nat
 | 0 => S
 | t + 1 => rb S t + (rb S t + S + S) + 1
theorem rb_le {S t : Nat} (ht : t ≤ 5) (hS : S ≤ 1000000) : rb S t ≤ 200000000 := by
 have h0 : rb S 0 = S := rfl
 have h1 : rb S 1 = rb S 0 + (rb S 0 + S + S) + 1 := rfl
 have h2 : rb S 2 = rb S 1 + (rb S 1 + S + S) + 1 := rfl
 have h3 : rb S 3 = rb S 2 + (rb S 2 + S + S) + 1 := rfl
 have h4 : rb S 4 = rb S 3 + (rb S 3 + S + S) + 1 := rfl
 have h5 : rb S 5 = rb S 4 + (rb S 4 + S + S) + 1 := rfl
 match t, ht with
 | 0, _ => omega
 | 1, _ => omega
 | 2, _ => omega
 | 3, _ => omega
 | 4, _ => omega
 | 5, _ => omega
structure DI2 where
 cnt : Nat
 z : Int
 eq : List Value
 er : List Value
 Q : List Rat
 R : List Rat
set_option maxHeartbeats 4000000 in
theorem divide0 {u : PH} {v v' : Value} {p q : List Rat} {S : Nat} (h : FracsP u v p) (h' : FracsP u v' q) (hs : SzL p S) (hs' : SzL q S) (hS : S ≤ 1000000) (hp : p ≠ []) (hp5 : p.length ≤ 5) (hq : q ≠ []) (hq5 : q.length ≤ 5) (hl : gR q (q.length - 1) ≠ 0) :
  Fn0 Tryz.prog 102 [v, v'] u fun r u' => ∃ r1 r2, r = .tuple #[r1, r2] ∧ FracsP u' r1 (quoL p q) ∧ FracsP u' r2 (remL p q) := by
 obtain ⟨a, c, rfl⟩ := h.opn
 obtain ⟨a', c', rfl⟩ := h'.opn
 have hpp := List.length_pos_iff.2 hp
 have hqp := List.length_pos_iff.2 hq
 obtain ⟨es0, hL0, hF0⟩ := id h
 have hF0' : AtP FracP u es0 p := hF0
 have hel0 : es0.length = p.length := hF0.1
 have hne0 : es0 ≠ [] := by intro e; rw [e] at hel0; simp at hel0; omega
 have zero : ((0 : Int) : Rat) = 0 := by decide
 have szt : ∀ {x : Rat} {t : Nat}, Sz x (rb S t) → t ≤ 5 → Sz x 1000000000000 := fun h1 h2 => h1.mono (Nat.le_trans (rb_le h2 hS) (by omega))
 refine Fn0.of Tryz.func102 (by kernel_rfl) (by kernel_rfl) ?_
 refine G.callO _ _ (by kernel_rfl) Tryz.call94 (clonePoly0 hL0 hF0'.ok4 hne0 (by omega)) ?_
 intro v1 u1 m1 l1 hA1 hf1
 rw [mt_or]
 obtain ⟨gR', cR, rfl⟩ := hA1.ptr hne0
 rw [hel0] at hA1 ⊢
 refine G.call0 _ _ (by kernel_rfl) Tryz.call60 (fracOf0 (z := 0) (by omega) (by omega)) ?_
 intro v2 u2 l2 k2
 rw [zero] at k2
 obtain ⟨f2, rfl⟩ := k2.opF
 refine G.buildU 90 4 64 zF [fv f2] (by kernel_rfl) (fv_ok f2) rfl (by omega) (by simp) (by simp) ?_
 intro g3 u3 l3 e3
 refine G.sub (p.length : Int) (q.length : Int) ((p.length : Int) - (q.length : Int)) (by kernel_rfl) rfl (by omega) (by omega) ?_
 refine G.add ((p.length : Int) - (q.length : Int)) 1 ((p.length : Int) - (q.length : Int) + 1) (by kernel_rfl) rfl (by omega) (by omega) ?_
 obtain ⟨n, hn⟩ : ∃ n, n = p.length + 1 - q.length := ⟨_, rfl⟩
 refine G.maxI [3, 3] 0 ((p.length : Int) - (q.length : Int) + 1) (n : Int) (by kernel_rfl) (by omega) ?_
 have hLP : ListP u3 (.slice (some ⟨g3, 0, none⟩) 1 1) 4 [fv f2] := ⟨_, 1, rfl, Nat.le_refl _, fun j e hj => ⟨g3, 0, rfl, e3 j e hj⟩⟩
 refine G.callO _ _ (by kernel_rfl) Tryz.call141 (repeatP0 (n := n) hLP (fv_ok f2) (by omega)) ?_
 intro v4 u4 m4 l4 hA4 hf4
 have hA4' := hA4.join hf4
 obtain ⟨a4, c4, rfl⟩ := hA4.shape
 rw [List.length_replicate] at hA4' ⊢
 have hbag : Bag (m1.or m4) [outArr (.slice a4 n c4) (List.replicate n (fv f2)), outArr (.slice (some ⟨gR', 0, none⟩) p.length cR) es0] := ⟨m1, hA4', PH.mt, hA1, trivial⟩
 refine G.sub (n : Int) 1 ((n : Int) - 1) (by kernel_rfl) rfl (by omega) (by omega) ?_
 refine G.loop (ι := DI2) (fun s => [(1, .v (.slice a' q.length c')), (4, .v (.slice a4 n c4)), (5, .v (.slice (some ⟨gR', 0, none⟩) p.length cR)), (6, .v (.int .i64 s.z))]) (fun _ => [])
  (fun s u' m' => s.z = (s.cnt : Int) - 1 ∧ s.cnt ≤ n ∧ s.Q.length = n ∧ s.R.length = p.length ∧ divGo q s.cnt s.Q s.R = divL p q ∧ SzL s.R (rb S (n - s.cnt)) ∧ AtP FracP u' s.eq s.Q ∧ AtP FracP u' s.er s.R ∧ Bag m' [outArr (.slice a4 n c4) s.eq, outArr (.slice (some ⟨gR', 0, none⟩) p.length cR) s.er])
  (fun s => s.cnt) ⟨n, (n : Int) - 1, List.replicate n (fv f2), es0, List.replicate n 0, p⟩ (by kernel_rfl) (fun _ => by kernel_rfl) ⟨by kernel_rfl, by kernel_rfl, by kernel_rfl⟩
  ⟨rfl, Nat.le_refl _, by simp, rfl, by dsimp only; rw [hn]; rfl, by dsimp only; rw [Nat.sub_self]; exact hs, AtP.rep (k2.mono (l3.trans l4)) n, hF0'.mono (fun _ _ h => h.mono (((l1.trans l2).trans l3).trans l4)), hbag⟩ ?_
 clear hbag hA4' hA4 hA1
 rintro J ⟨cnt, z, eq, er, Q, R⟩ hJ u5 m5 l5 ⟨hz, hcn, hQl, hRl, hgo, hszR, hatQ, hatR, hbag⟩
 simp only at hz hcn hQl hRl hgo hszR hatQ hatR hbag hJ
 have helR := hatR.1
 have helQ := hatQ.1
 have hlu : PH.le u u5 := (((l1.trans l2).trans l3).trans l4).trans l5
 by_cases hge : 0 ≤ z
 ·obtain ⟨t, rfl⟩ : ∃ t : Nat, z = (t : Int) := ⟨z.toNat, by omega⟩
  obtain rfl : cnt = t + 1 := by omega
  refine G.geqT (t : Int) 0 (by kernel_rfl) (by omega) ?_
  obtain ⟨B, hB⟩ : ∃ B, B = rb S (n - (t + 1)) := ⟨_, rfl⟩
  have hB1 : rb S (n - t) = B + (B + S + S) + 1 := by rw [show n - t = (n - (t + 1)) + 1 by omega, rb, hB]
  have hBle : B ≤ 200000000 := by rw [hB]; exact rb_le (by omega) hS
  rw [← hB] at hszR
  have hti : t + q.length - 1 < R.length := by omega
  obtain ⟨e6, he6, hf6⟩ := hatR.at hti
  rw [← gR_at hti] at hf6
  obtain ⟨f6, rfl⟩ := hf6.opF
  have hEl6 : ElP m5 gR' (0 + (t + q.length - 1) * 4) (fv f6) := hbag.el 1 rfl rfl he6
  obtain ⟨b7, o7, b1, a1, n1, c1, b2, a2, n2, c2, rfl, e7, hf7⟩ := (h'.mono hlu).at (j := q.length - 1) (by omega)
  refine G.add (t : Int) (q.length : Int) ((t + q.length : Nat) : Int) (by kernel_rfl) (by omega) (by omega) (by omega) ?_
  refine G.sub ((t + q.length : Nat) : Int) 1 ((t + q.length - 1 : Nat) : Int) (by kernel_rfl) (by omega) (by omega) (by omega) ?_
  refine G.addr gR' 0 p.length cR (t + q.length - 1) 4 (by kernel_rfl) (by omega) ?_
  refine G.loadM (some 4) gR' (0 + (t + q.length - 1) * 4) _ (by kernel_rfl) (by kernel_rfl) hEl6 ?_
  refine G.sub (q.length : Int) 1 ((q.length - 1 : Nat) : Int) (by kernel_rfl) (by omega) (by omega) (by omega) ?_
  refine G.addr b7 o7 q.length c' (q.length - 1) 4 (by kernel_rfl) (by omega) ?_
  refine G.loadU (some 4) b7 (o7 + (q.length - 1) * 4) _ (by kernel_rfl) (by kernel_rfl) e7 ?_
  have hs6 := hszR.at hti
  have hs7 := hs'.at (i := q.length - 1) (by omega)
  have hsF := sz_div hs6 hs7 hl
  refine G.call0 _ _ (by kernel_rfl) Tryz.call63 (fracDiv0 hf6 hf7 (hs6.mono (by omega)) (hs7.mono (by omega)) hl) ?_
  intro v8 u8 l8 k8
  obtain ⟨f8, rfl⟩ := k8.opF
  generalize hF : gR R (t + q.length - 1) / gR q (q.length - 1) = F at *
  obtain ⟨bq, cq, eq0⟩ := hbag.ptr 0 rfl (by intro e; simp only [outArr] at e; rw [e] at helQ; simp at helQ; omega)
  simp only [outArr, Value.slice.injEq] at eq0
  obtain ⟨rfl, _, rfl⟩ := eq0
  obtain ⟨m0, hx0, hput⟩ := hbag.focus 0 rfl
  rw [outArr_at] at hx0
  refine G.addr bq 0 n c4 t 4 (by kernel_rfl) (by omega) ?_
  refine G.storeA 4 m0 eq bq n c4 t (fv f8) (by kernel_rfl) hx0 (by omega) rfl rfl ?_
  intro m9 hx9
  have hbag2 : Bag m9 [outArr (.slice (some ⟨bq, 0, none⟩) n c4) (eq.set t (fv f8)), outArr (.slice (some ⟨gR', 0, none⟩) p.length cR) er] := hput (outArr (.slice (some ⟨bq, 0, none⟩) n c4) (eq.set t (fv f8))) m9 hx9
  clear hput hx0 hx9
  refine G.loop (ι := Nat × List Value × List Rat) (fun i => [(1, .v (.slice (some ⟨b7, o7, none⟩) q.length c')), (4, .v (.slice (some ⟨bq, 0, none⟩) n c4)), (5, .v (.slice (some ⟨gR', 0, none⟩) p.length cR)), (6, .v (.int .i64 (t : Int))), (7, .p 6015 0), (48, .v (.slice (some ⟨b7, o7, none⟩) q.length c')), (49, .v (.int .i64 (q.length : Int))), (50, .v (.int .i64 (i.1 : Int)))])
   (fun _ => [(6015, ⟨90, fc f8⟩)])
   (fun i u' m' => i.1 ≤ q.length ∧ i.2.2.length = p.length ∧ subGo q F t (q.length - i.1) i.1 i.2.2 = subGo q F t q.length 0 R ∧ SzL i.2.2 (rb S (n - t)) ∧ (∀ j, t + i.1 ≤ j → j < p.length → Sz (gR i.2.2 j) B) ∧ AtP FracP u' i.2.1 i.2.2 ∧ Bag m' [outArr (.slice (some ⟨bq, 0, none⟩) n c4) (eq.set t (fv f8)), outArr (.slice (some ⟨gR', 0, none⟩) p.length cR) i.2.1])
   (fun i => q.length - i.1) (0, er, R) (by kernel_rfl) (fun _ => by kernel_rfl) ⟨by kernel_rfl, by kernel_rfl, by kernel_rfl⟩
   ⟨Nat.zero_le _, hRl, rfl, hszR.mono (by omega), fun j _ h2 => hszR.at (by omega), hatR.mono (fun _ _ h => h.mono l8), hbag2⟩ ?_
  rintro J2 ⟨i, er2, R2⟩ hJ2 u9 m10 l9 ⟨hi, hR2, hsg, hszR2, hszB, hat2, hbag3⟩
  simp only at hi hR2 hsg hszR2 hszB hat2 hbag3 hJ2
  have her2 := hat2.1
  by_cases hlt : i < q.length
  ·refine G.lssT (i : Int) (q.length : Int) (by kernel_rfl) (by omega) ?_
   obtain ⟨b10, o10, d1, d2, d3, d4, d5, d6, d7, d8, eqa, e10, hf10⟩ := (h'.mono (hlu.trans (l8.trans l9))).at (j := i) hlt
   cases eqa
   refine G.addr b7 o7 q.length c' i 4 (by kernel_rfl) hlt ?_
   refine G.loadU (some 4) b7 (o7 + i * 4) _ (by kernel_rfl) (by kernel_rfl) e10 ?_
   have hti2 : t + i < R2.length := by omega
   obtain ⟨e11, he11, hf11⟩ := hat2.at hti2
   rw [← gR_at hti2] at hf11
   obtain ⟨f11, rfl⟩ := hf11.opF
   have hEl11 : ElP m10 gR' (0 + (t + i) * 4) (fv f11) := hbag3.el 1 rfl rfl he11
   refine G.add (t : Int) (i : Int) ((t + i : Nat) : Int) (by kernel_rfl) (by omega) (by omega) (by omega) ?_
   refine G.add (t : Int) (i : Int) ((t + i : Nat) : Int) (by kernel_rfl) (by omega) (by omega) (by omega) ?_
   refine G.addr gR' 0 p.length cR (t + i) 4 (by kernel_rfl) (by omega) ?_
   refine G.loadM (some 4) gR' (0 + (t + i) * 4) _ (by kernel_rfl) (by kernel_rfl) hEl11 ?_
   have hsx := hs'.at hlt
   have hsP := sz_mul2 hsF hsx
   have hsr := hszB (t + i) (Nat.le_refl _) (by omega)
   refine G.call0 _ _ (by kernel_rfl) Tryz.call93 (fracMul0 (k8.mono l9) hf10 (hsF.mono (by omega)) (hsx.mono (by omega))) ?_
   intro v12 u12 l12 k12
   obtain ⟨f12, rfl⟩ := k12.opF
   refine G.call0 _ _ (by kernel_rfl) Tryz.call142 (fracSub0 (hf11.mono l12) k12 (hsr.mono (by omega)) (hsP.mono (by omega))) ?_
   intro v13 u13 l13 k13
   obtain ⟨f13, rfl⟩ := k13.opF
   have hsn : Sz (gR R2 (t + i) - F * gR q i) (rb S (n - t)) := (sz_sub2 hsr hsP).mono (by omega)
   obtain ⟨m0, hx0, hput⟩ := hbag3.focus 1 rfl
   rw [outArr_at] at hx0
   refine G.addr gR' 0 p.length cR (t + i) 4 (by kernel_rfl) (by omega) ?_
   refine G.storeA 4 m0 er2 gR' p.length cR (t + i) (fv f13) (by kernel_rfl) hx0 (by omega) rfl rfl ?_
   intro m14 hx14
   have hbag4 := hput (outArr (.slice (some ⟨gR', 0, none⟩) p.length cR) (er2.set (t + i) (fv f13))) m14 hx14
   refine G.add (i : Int) 1 ((i + 1 : Nat) : Int) (by kernel_rfl) (by omega) (by omega) (by omega) ?_
   refine G.back (by kernel_rfl) (hJ2 (i + 1, er2.set (t + i) (fv f13), R2.set (t + i) (gR R2 (t + i) - F * gR q i)) _ _ _ ⟨by kernel_rfl, by kernel_rfl, by kernel_rfl⟩ ((l9.trans l12).trans l13) ⟨by dsimp only; omega, by simp [hR2], ?_, hszR2.set hsn, ?_, ?_, hbag4⟩ (by dsimp only; omega))
   ·dsimp only
    rw [← hsg, show q.length - i = (q.length - (i + 1)) + 1 by omega, subGo]
   ·intro j h1 h2
    dsimp only at h1 ⊢
    rw [gR_set hti2, if_neg (by omega)]
    exact hszB j (by omega) h2
   ·exact (hat2.mono (fun _ _ h => h.mono (l12.trans l13))).set (t + i) k13
  ·obtain rfl : i = q.length := by omega
   refine G.lssF (q.length : Int) (q.length : Int) (by kernel_rfl) (by omega) ?_
   rw [Nat.sub_self, subGo] at hsg
   refine G.sub (t : Int) 1 ((t : Int) - 1) (by kernel_rfl) rfl (by omega) (by omega) ?_
   refine G.back (by kernel_rfl) (hJ ⟨t, (t : Int) - 1, eq.set t (fv f8), er2, Q.set t F, R2⟩ _ _ _ ⟨by kernel_rfl, by kernel_rfl, by kernel_rfl⟩ ((l5.trans l8).trans l9) ⟨rfl, by dsimp only; omega, by simp [hQl], hR2, ?_, hszR2, ?_, hat2, hbag3⟩ (by dsimp only; omega))
   ·dsimp only
    rw [← hgo, divGo, hF, hsg]
   ·exact (hatQ.mono (fun _ _ h => h.mono (l8.trans l9))).set t (k8.mono l9)
 ·obtain rfl : cnt = 0 := by omega
  refine G.geqF z 0 (by kernel_rfl) (by omega) ?_
  rw [divGo] at hgo
  obtain ⟨m0, hx0, hbag2⟩ := hbag.take 1 rfl
  rw [outArr_at] at hx0
  refine G.give m0 er _ (by kernel_rfl) hx0 (fun _ => .inl rfl) ?_
  intro u6 l6 hLr
  obtain ⟨m1', hx1, _⟩ := hbag2.take 0 rfl
  rw [outArr_at] at hx1
  refine G.give m1' eq _ (by kernel_rfl) hx1 (fun _ => .inl rfl) ?_
  intro u7 l7 hLq
  refine G.drop PH.mt (by kernel_rfl) (PH.mt_le _) ?_
  have hR : FracsP u7 (.slice (some ⟨gR', 0, none⟩) p.length cR) R := ⟨er, hLr.mono l7, hatR.mono (fun _ _ h => h.mono (l6.trans l7))⟩
  have hQ : FracsP u7 (.slice a4 n c4) Q := ⟨eq, hLq, hatQ.mono (fun _ _ h => h.mono (l6.trans l7))⟩
  refine G.call0 _ _ (by kernel_rfl) Tryz.call143 (trim0 hR hszR (Nat.le_trans (rb_le (by omega) hS) (by omega)) (by omega)) ?_
  intro v8 u8 l8 k8
  obtain ⟨a8, c8, rfl⟩ := k8.opn
  refine G.ret (.tuple #[.slice a4 n c4, .slice a8 (trimL R).length c8]) (by kernel_rfl) ⟨rfl, .slice a4 n c4, .slice a8 (trimL R).length c8, rfl, ?_, ?_⟩
  ·unfold quoL; rw [← hgo]; exact hQ.mono l8
  ·unfold remL; rw [← hgo]; exact k8
def simOK : Nat → List Rat → List Rat → Prop
 | _, _, [] => True
 | 0, _, _ :: _ => False
 | f + 1, a, x :: b => gR (x :: b) ((x :: b).length - 1) ≠ 0 ∧ a ≠ [] ∧ a.length ≤ 5 ∧ (x :: b).length ≤ 5 ∧ SzL a 1000000 ∧ SzL (x :: b) 1000000 ∧ simOK f (x :: b) (remL a (x :: b))
def simGo : Nat → List Rat → List Rat → List Rat
 | 0, a, _ => a
 | f + 1, a, b => if b = [] then a else simGo f b (remL a b)
theorem simGo_nil : ∀ (f : Nat) (a : List Rat), simGo f a [] = a
 | 0, _ => rfl
 | f + 1, _ => by simp [simGo]
def simpL (f : Nat) (p : List Rat) : List Rat := quoL p (simGo f p (derL p))
structure SimP (f : Nat) (p : List Rat) : Prop where
 ok : simOK f p (derL p)
 ne : p ≠ []
 len : p.length ≤ 5
 sz : SzL p 1000000
 ne' : simGo f p (derL p) ≠ []
 len' : (simGo f p (derL p)).length ≤ 5
 sz' : SzL (simGo f p (derL p)) 1000000
 last : gR (simGo f p (derL p)) ((simGo f p (derL p)).length - 1) ≠ 0
set_option maxHeartbeats 1000000 in
theorem simple0 {u : PH} {v : Value} {p : List Rat} {f : Nat} (h : FracsP u v p) (hp : SimP f p) : Fn0 Tryz.prog 57 [v] u fun v' u' => FracsP u' v' (simpL f p) := by
 obtain ⟨a, c, rfl⟩ := h.opn
 have hlen := hp.len
 refine Fn0.of Tryz.func57 (by kernel_rfl) (by kernel_rfl) ?_
 refine G.call0 _ _ (by kernel_rfl) Tryz.call101 (derivative0 h hp.sz (by omega) (by omega)) ?_
 intro v1 u1 l1 k1
 obtain ⟨a1, c1, rfl⟩ := k1.opn
 refine G.loop (ι := Nat × (Option Addr × Nat) × (Option Addr × Nat) × List Rat × List Rat) (fun i => [(0, .v (.slice a p.length c)), (3, .v (.slice i.2.1.1 i.2.2.2.1.length i.2.1.2)), (4, .v (.slice i.2.2.1.1 i.2.2.2.2.length i.2.2.1.2))]) (fun _ => [])
  (fun i u' m' => simOK i.1 i.2.2.2.1 i.2.2.2.2 ∧ simGo i.1 i.2.2.2.1 i.2.2.2.2 = simGo f p (derL p) ∧ FracsP u' (.slice i.2.1.1 i.2.2.2.1.length i.2.1.2) i.2.2.2.1 ∧ FracsP u' (.slice i.2.2.1.1 i.2.2.2.2.length i.2.2.1.2) i.2.2.2.2 ∧ m' = PH.mt)
  (fun i => i.1) (f, (a, c), (a1, c1), p, derL p) (by kernel_rfl) (fun _ => by kernel_rfl) ⟨by kernel_rfl, by kernel_rfl, by kernel_rfl⟩ ⟨hp.ok, rfl, h.mono l1, k1, rfl⟩ ?_
 rintro J ⟨k, ⟨a2, c2⟩, ⟨a3, c3⟩, x, y⟩ hJ u2 m2 l2 ⟨hok, hgo, hx, hy, rfl⟩
 simp only at hok hgo hx hy hJ
 cases y with
 | nil =>
  refine G.gtrF ((0 : Nat) : Int) 0 (by kernel_rfl) (by omega) ?_
  rw [simGo_nil] at hgo
  subst hgo
  refine G.call0 _ _ (by kernel_rfl) Tryz.call102 (divide0 (h.mono (l1.trans l2)) hx hp.sz hp.sz' (by omega) hp.ne hlen hp.ne' hp.len' hp.last) ?_
  rintro v4 u4 l4 ⟨r1, r2, rfl, k4, k5⟩
  obtain ⟨a4, c4, rfl⟩ := k4.opn
  obtain ⟨a5, c5, rfl⟩ := k5.opn
  exact G.ret _ (by kernel_rfl) ⟨rfl, k4⟩
 | cons y0 y =>
  cases k with
  | zero => exact hok.elim
  | succ k =>
   obtain ⟨h1, h2, h3, h4, h5, h6, h7⟩ := hok
   refine G.gtrT (((y0 :: y).length : Nat) : Int) 0 (by kernel_rfl) (by simp) ?_
   refine G.call0 _ _ (by kernel_rfl) Tryz.call102 (divide0 hx hy h5 h6 (by omega) h2 h3 (by simp) h4 h1) ?_
   rintro v4 u4 l4 ⟨r1, r2, rfl, k4, k5⟩
   obtain ⟨a4, c4, rfl⟩ := k4.opn
   obtain ⟨a5, c5, rfl⟩ := k5.opn
   refine G.back (by kernel_rfl) (hJ (k, (a3, c3), (a5, c5), y0 :: y, remL x (y0 :: y)) _ _ _ ⟨by kernel_rfl, by kernel_rfl, by kernel_rfl⟩ (l2.trans l4) ⟨h7, ?_, hy.mono l4, k5, rfl⟩ (by dsimp only; omega))
   dsimp only
   rw [← hgo, simGo, if_neg (by simp)]
end Go.Proofs.YtldokelpolbnnaaGreatDoor
end
section
namespace Go.Proofs.YtldokelpolbnnaaGreatDoor
def absR (q : Rat) : Rat := if q < 0 then -q else q
def asumGo (r : List Rat) : Nat → Nat → Rat → Rat
 | 0, _, s => s
 | f + 1, i, s => asumGo r f (i + 1) (s + absR (gR r i))
def dblGo : Nat → Rat → Rat → Rat
 | 0, o, _ => o
 | f + 1, o, s => if o < s then dblGo f (o + o) s else o
def bndGo (F : Nat) (A : List (List Rat)) : Nat → Nat → Rat → Rat
 | 0, _, o => o
 | f + 1, i, o => bndGo F A f (i + 1) (dblGo F o (asumGo (gM A i) (gM A i).length 0 0))
def bndL (F : Nat) (A : List (List Rat)) : Rat := bndGo F A A.length 0 1
def smallB (q : Rat) : Bool := decide (q.num.natAbs < 10 ^ 100) && decide (q.den < 10 ^ 100)
def dblB : Nat → Rat → Rat → Bool
 | 0, o, s => smallB o && !decide (o < s)
 | f + 1, o, s => smallB o && (!decide (o < s) || dblB f (o + o) s)
def bndB (F : Nat) (A : List (List Rat)) : Nat → Nat → Rat → Bool
 | 0, _, o => smallB o
 | f + 1, i, o => dblB F o (asumGo (gM A i) (gM A i).length 0 0) && bndB F A f (i + 1) (dblGo F o (asumGo (gM A i) (gM A i).length 0 0))
def specGo (all sim : List Rat) (h : Nat) : Nat → List (Rat × Rat × Nat) → List (Rat × Rat × Int) → Option (List (Rat × Rat × Int))
 | 0, _, _ => none
 | _ + 1, [], out => some out
 | f + 1, x :: st, out =>
  if smallB x.1 && smallB x.2.1 then
   if withinL sim x.1 x.2.1 = 0 then specGo all sim h f st out
   else if withinL sim x.1 x.2.1 = 1 ∧ h ≤ x.2.2 then specGo all sim h f st (out ++ [(x.1, x.2.1, withinL all x.1 x.2.1)])
   else if 60 ≤ x.2.2 then none
   else specGo all sim h f ((x.1, (x.1 + x.2.1) / 2, x.2.2 + 1) :: ((x.1 + x.2.1) / 2, x.2.1, x.2.2 + 1) :: st) out
  else none
def okPrev : Option Rat → Rat → Bool
 | none, _ => true
 | some r, x => decide (r ≤ x)
def chkGo (p : List Rat) : Option Rat → List (Rat × Rat × Int) → Int → Option Int
 | _, [], s => some s
 | pr, x :: l, s =>
  if smallB x.1 && smallB x.2.1 && decide (x.1 < x.2.1) && okPrev pr x.1 && decide (lessL p x.2.1 + (equalL p x.2.1 : Int) - (lessL p x.1 + (equalL p x.1 : Int)) = x.2.2) && decide (1 ≤ x.2.2)
  then chkGo p (some x.2.1) l (s + x.2.2) else none
end Go.Proofs.YtldokelpolbnnaaGreatDoor
end
section
set_option linter.unusedSectionVars false
set_option linter.unusedVariables false
namespace Go.Proofs.YtldokelpolbnnaaGreatDoor
open Go.RowKit
theorem dig_of_lt : ∀ {k n : Nat} (_ : 0 < k) (_ : n < 10 ^ k), Lib.nDigits n ≤ k
 | 0, n, hk, h => by omega
 | k + 1, n, hk, h => by
  by_cases hn : n < 10
  ·rw [Lib.nDigits_small hn]; omega
  ·rw [Lib.nDigits_big hn]
   have hk0 : 0 < k := by
    rcases Nat.eq_zero_or_pos k with h0 | h0
    ·subst h0; simp at h; omega
    ·exact h0
   have := dig_of_lt (k := k) (n := n / 10) hk0 (by rw [Nat.div_lt_iff_lt_mul (by omega), ← Nat.pow_succ]; exact h)
   omega
theorem smallB_spec {q : Rat} (h : smallB q = true) : Tx q ∧ Sz q 12 := by
 simp only [smallB, Bool.and_eq_true, decide_eq_true_eq] at h
 have h1 := dig_of_lt (by omega) h.1
 have h2 := dig_of_lt (by omega) h.2
 have e : (10 : Nat) ^ 100 ≤ 1000000000 ^ 12 := by decide
 exact ⟨⟨by omega, by omega⟩, nl_le_of_lt (Nat.lt_of_lt_of_le h.1 e), nl_le_of_lt (Nat.lt_of_lt_of_le h.2 e)⟩
theorem sg_lt {q r : Rat} : sg (q - r) < 0 ↔ q < r := by
 rcases sg_cases (q - r) with ⟨h, e⟩ | ⟨h, e⟩ | ⟨h, e⟩
 ·rw [e]; exact ⟨fun _ => by grind, fun _ => by omega⟩
 ·rw [e]; exact ⟨fun h' => by omega, fun h' => by grind⟩
 ·rw [e]; exact ⟨fun h' => by omega, fun h' => by grind⟩
theorem fracCompareS {u : PH} {x x' : Value} {q r : Rat} (h : FracP u x q) (h' : FracP u x' r) (h1 : Sz q 1000000000000) (h2 : Sz r 1000000000000) : Fn0 Tryz.prog 103 [x, x'] u fun v _ => v = .int .i64 (sg (q - r)) := by
 rw [← sgn_num, ← cmp_sub]; exact fracCompare0 h h' h1 h2
theorem sz_abs {q : Rat} {k : Nat} (h : Sz q k) : Sz (absR q) k := by
 unfold absR; split
 ·exact sz_neg h
 ·exact h
set_option maxHeartbeats 4000000 in
theorem bound0 {u : PH} {v : Value} {A : List (List Rat)} {T F : Nat} (h : MatP u v (matT A)) (hA : Nice A T) (hb : bndB F A A.length 0 1 = true) :
  Fn0 Tryz.prog 58 [v] u fun v' u' => FracP u' v' (bndL F A) := by
 obtain ⟨a, c, rfl⟩ := h.opn
 rw [matT_length] at h ⊢
 have hle := hA.le
 have hT := hA.tle
 have one : ((1 : Int) : Rat) = 1 := by decide
 have zero : ((0 : Int) : Rat) = 0 := by decide
 refine Fn0.of Tryz.func58 (by kernel_rfl) (by kernel_rfl) ?_
 refine G.call0 _ _ (by kernel_rfl) Tryz.call60 (fracOf0 (z := 1) (by omega) (by omega)) ?_
 intro v1 u1 l1 k1
 rw [one] at k1
 obtain ⟨f1, rfl⟩ := k1.opF
 refine G.loop (ι := Nat × F4 × Rat) (fun i => [(2, .p 0 0), (3, .p 1001 0), (10, .v (.slice a A.length c)), (11, .v (.int .i64 (A.length : Int))), (12, .v (.int .i64 (i.1 : Int)))])
  (fun i => [(0, ⟨90, [.v (.bool false), .v (.slice none 0 0), .v (.bool false), .v (.slice none 0 0)]⟩), (1001, ⟨90, fc i.2.1⟩)])
  (fun i u' m' => i.1 ≤ A.length ∧ bndB F A (A.length - i.1) i.1 i.2.2 = true ∧ bndGo F A (A.length - i.1) i.1 i.2.2 = bndL F A ∧ FracP u' (fv i.2.1) i.2.2 ∧ m' = PH.mt)
  (fun i => A.length - i.1) (0, f1, 1) (by kernel_rfl) (fun _ => by kernel_rfl) ⟨by kernel_rfl, by kernel_rfl, by kernel_rfl⟩ ⟨Nat.zero_le _, hb, rfl, k1, rfl⟩ ?_
 rintro J ⟨i, fo, o⟩ hJ u2 m2 l2 ⟨hi, hbo, hgo, ho, rfl⟩
 simp only at hi hbo hgo ho hJ
 by_cases hlt : i < A.length
 ·refine G.lssT (i : Int) (A.length : Int) (by kernel_rfl) (by omega) ?_
  have htk : A[i]? = some A[i] := List.getElem?_eq_getElem hlt
  have hmem := List.getElem_mem hlt
  have hgm := gM_at hlt
  have hrl : A[i].length = A.length := hA.sq.row _ hmem
  obtain ⟨ba, oa, a3, c3, rfl, e3, s3⟩ := (h.mono (l1.trans l2)).row (matT_at htk)
  rw [List.length_map] at e3 s3
  refine G.addr ba oa A.length c i 1 (by kernel_rfl) (by omega) ?_
  refine G.loadU none ba (oa + i * 1) _ (by kernel_rfl) (by kernel_rfl) e3 ?_
  refine G.call0 _ _ (by kernel_rfl) Tryz.call60 (fracOf0 (z := 0) (by omega) (by omega)) ?_
  intro v4 u4 l4 k4
  rw [zero] at k4
  obtain ⟨f4, rfl⟩ := k4.opF
  refine G.call0 _ _ (by kernel_rfl) Tryz.call91 (fracList0 (ListP.mono s3 l4) (hA.sq.tx _ hmem) (by omega)) ?_
  intro v5 u5 l5 k5
  obtain ⟨a5, c5, rfl⟩ := k5.opn
  have hszr := hA.sz _ hmem
  rw [show A.length - i = (A.length - (i + 1)) + 1 by omega, bndB, Bool.and_eq_true, hgm] at hbo
  rw [show A.length - i = (A.length - (i + 1)) + 1 by omega, bndGo, hgm] at hgo
  generalize A[i] = r at *
  refine G.loop (ι := Nat × F4 × Rat) (fun j => [(2, .p 0 0), (3, .p 1001 0), (10, .v (.slice (some ⟨ba, oa, none⟩) A.length c)), (11, .v (.int .i64 (A.length : Int))), (12, .v (.int .i64 (i : Int))), (6, .p 5001 0), (18, .v (.slice a5 r.length c5)), (19, .v (.int .i64 (r.length : Int))), (20, .v (.int .i64 (j.1 : Int)))])
   (fun j => [(0, ⟨90, [.v (.bool false), .v (.slice none 0 0), .v (.bool false), .v (.slice none 0 0)]⟩), (1001, ⟨90, fc fo⟩), (5001, ⟨90, fc j.2.1⟩)])
   (fun j u' m' => j.1 ≤ r.length ∧ asumGo r (r.length - j.1) j.1 j.2.2 = asumGo r r.length 0 0 ∧ Sz j.2.2 (1 + j.1 * (T + 1)) ∧ FracP u' (fv j.2.1) j.2.2 ∧ m' = PH.mt)
   (fun j => r.length - j.1) (0, f4, 0) (by kernel_rfl) (fun _ => by kernel_rfl) ⟨by kernel_rfl, by kernel_rfl, by kernel_rfl⟩ ⟨Nat.zero_le _, rfl, sz_zero.mono (by omega), k4.mono l5, rfl⟩ ?_
  rintro J2 ⟨j, fs, s⟩ hJ2 u6 m6 l6 ⟨hj, hag, hsz, hs, rfl⟩
  simp only at hj hag hsz hs hJ2
  have hjT : j * (T + 1) ≤ 4 * (T + 1) := Nat.mul_le_mul_right _ (by omega)
  by_cases hltj : j < r.length
  ·refine G.lssT (j : Int) (r.length : Int) (by kernel_rfl) (by omega) ?_
   obtain ⟨b7, o7, d1, d2, d3, d4, d5, d6, d7, d8, rfl, e7, hf7⟩ := (k5.mono l6).at (j := j) hltj
   have hs7 := hszr.at hltj
   refine G.addr b7 o7 r.length c5 j 4 (by kernel_rfl) hltj ?_
   refine G.loadU (some 4) b7 (o7 + j * 4) _ (by kernel_rfl) (by kernel_rfl) e7 ?_
   refine G.call0 _ _ (by kernel_rfl) Tryz.call95 (fracSignS hf7 hs7 (by omega)) ?_
   rintro v8 u8 l8 rfl
   have hse := Nat.succ_mul j (T + 1)
   simp only [Nat.succ_eq_add_one] at hse
   have hsn := sz_add2 hsz (sz_abs hs7)
   by_cases hneg : gR r j < 0
   ·have hab : absR (gR r j) = -gR r j := by unfold absR; rw [if_pos hneg]
    refine G.lssT (sg (gR r j)) 0 (by kernel_rfl) (by rw [sg_neg hneg]; omega) ?_
    refine G.call0 _ _ (by kernel_rfl) Tryz.call61 (fracNeg0 (hf7.mono l8) (Nat.le_trans hs7.1 (by omega))) ?_
    intro v9 u9 l9 k9
    obtain ⟨f9, rfl⟩ := k9.opF
    rw [← hab] at k9
    refine G.call0 _ _ (by kernel_rfl) Tryz.call59 (fracAdd0 (hs.mono (l8.trans l9)) k9 (hsz.mono (by omega)) ((sz_abs hs7).mono (by omega))) ?_
    intro v10 u10 l10 k10
    obtain ⟨f10, rfl⟩ := k10.opF
    refine G.add (j : Int) 1 ((j + 1 : Nat) : Int) (by kernel_rfl) (by omega) (by omega) (by omega) ?_
    refine G.back (by kernel_rfl) (hJ2 (j + 1, f10, s + absR (gR r j)) _ _ _ ⟨by kernel_rfl, by kernel_rfl, by kernel_rfl⟩ (((l6.trans l8).trans l9).trans l10) ⟨by dsimp only; omega, ?_, hsn.mono (by dsimp only; omega), k10, rfl⟩ (by dsimp only; omega))
    dsimp only
    rw [← hag, show r.length - j = (r.length - (j + 1)) + 1 by omega, asumGo]
   ·have hab : absR (gR r j) = gR r j := by unfold absR; rw [if_neg hneg]
    refine G.lssF (sg (gR r j)) 0 (by kernel_rfl) (by rcases sg_cases (gR r j) with ⟨h, e⟩ | ⟨h, e⟩ | ⟨h, e⟩ <;> rw [e] <;> first | exact absurd h hneg | omega) ?_
    refine G.call0 _ _ (by kernel_rfl) Tryz.call59 (fracAdd0 (hs.mono l8) (hf7.mono l8) (hsz.mono (by omega)) (hs7.mono (by omega))) ?_
    intro v10 u10 l10 k10
    obtain ⟨f10, rfl⟩ := k10.opF
    rw [← hab] at k10
    refine G.add (j : Int) 1 ((j + 1 : Nat) : Int) (by kernel_rfl) (by omega) (by omega) (by omega) ?_
    refine G.back (by kernel_rfl) (hJ2 (j + 1, f10, s + absR (gR r j)) _ _ _ ⟨by kernel_rfl, by kernel_rfl, by kernel_rfl⟩ ((l6.trans l8).trans l10) ⟨by dsimp only; omega, ?_, hsn.mono (by dsimp only; omega), k10, rfl⟩ (by dsimp only; omega))
    dsimp only
    rw [← hag, show r.length - j = (r.length - (j + 1)) + 1 by omega, asumGo, hab]
  ·obtain rfl : j = r.length := by omega
   refine G.lssF (r.length : Int) (r.length : Int) (by kernel_rfl) (by omega) ?_
   rw [Nat.sub_self, asumGo] at hag
   rw [← hag] at hbo hgo
   have hss : Sz s 1000000000000 := hsz.mono (by omega)
   refine G.loop (ι := Nat × F4 × Rat) (fun j => [(2, .p 0 0), (3, .p 1001 0), (10, .v (.slice (some ⟨ba, oa, none⟩) A.length c)), (11, .v (.int .i64 (A.length : Int))), (12, .v (.int .i64 (i : Int))), (6, .p 5001 0)])
    (fun j => [(0, ⟨90, [.v (.bool false), .v (.slice none 0 0), .v (.bool false), .v (.slice none 0 0)]⟩), (1001, ⟨90, fc j.2.1⟩), (5001, ⟨90, fc fs⟩)])
    (fun j u' m' => dblB j.1 j.2.2 s = true ∧ dblGo j.1 j.2.2 s = dblGo F o s ∧ FracP u' (fv j.2.1) j.2.2 ∧ m' = PH.mt)
    (fun j => j.1) (F, fo, o) (by kernel_rfl) (fun _ => by kernel_rfl) ⟨by kernel_rfl, by kernel_rfl, by kernel_rfl⟩ ⟨hbo.1, rfl, ho.mono ((l4.trans l5).trans l6), rfl⟩ ?_
   rintro J3 ⟨k, fp, p⟩ hJ3 u7 m7 l7 ⟨hdb, hdg, hp, rfl⟩
   simp only at hdb hdg hp hJ3
   have hsmall : smallB p = true := by cases k <;> simp only [dblB, Bool.and_eq_true] at hdb <;> exact hdb.1
   have hszp : Sz p 1000000000000 := (smallB_spec hsmall).2.mono (by omega)
   refine G.call0 _ _ (by kernel_rfl) Tryz.call103 (fracCompareS hp (hs.mono l7) hszp hss) ?_
   rintro v8 u8 l8 rfl
   by_cases hps : p < s
   ·refine G.lssT (sg (p - s)) 0 (by kernel_rfl) (sg_lt.2 hps) ?_
    cases k with
    | zero => simp [dblB, hps] at hdb
    | succ k =>
     refine G.call0 _ _ (by kernel_rfl) Tryz.call59 (fracAdd0 (hp.mono l8) (hp.mono l8) hszp hszp) ?_
     intro v9 u9 l9 k9
     obtain ⟨f9, rfl⟩ := k9.opF
     simp only [dblB, Bool.and_eq_true, hps, decide_true, Bool.not_true, Bool.false_or] at hdb
     refine G.back (by kernel_rfl) (hJ3 (k, f9, p + p) _ _ _ ⟨by kernel_rfl, by kernel_rfl, by kernel_rfl⟩ ((l7.trans l8).trans l9) ⟨hdb.2, ?_, k9, rfl⟩ (by dsimp only; omega))
     dsimp only
     rw [← hdg, dblGo, if_pos hps]
   ·refine G.lssF (sg (p - s)) 0 (by kernel_rfl) (fun h' => hps (sg_lt.1 h')) ?_
    have hpe : dblGo F o s = p := by
     rw [← hdg]
     cases k with
     | zero => rfl
     | succ k => rw [dblGo, if_neg hps]
    rw [hpe] at hbo hgo
    refine G.add (i : Int) 1 ((i + 1 : Nat) : Int) (by kernel_rfl) (by omega) (by omega) (by omega) ?_
    exact G.back (by kernel_rfl) (hJ (i + 1, fp, p) _ _ _ ⟨by kernel_rfl, by kernel_rfl, by kernel_rfl⟩ (((((l2.trans l4).trans l5).trans l6).trans l7).trans l8) ⟨by dsimp only; omega, hbo.2, hgo, hp.mono l8, rfl⟩ (by dsimp only; omega))
 ·obtain rfl : i = A.length := by omega
  refine G.lssF (A.length : Int) (A.length : Int) (by kernel_rfl) (by omega) ?_
  rw [Nat.sub_self, bndGo] at hgo
  rw [hgo] at ho
  exact G.ret (fv fo) (by kernel_rfl) ⟨rfl, ho⟩
end Go.Proofs.YtldokelpolbnnaaGreatDoor
end
section
set_option linter.unusedSectionVars false
set_option linter.unusedVariables false
namespace Go.Proofs.YtldokelpolbnnaaGreatDoor
open Go.RowKit
section rules
variable {P : Program} [Mixed P] {fn : Func} {Post : Spec} {st : List KI × S} {u m : PH}
theorem G.buildM (e : TypeId) (sz bt : Nat) (z : Value) (es : List Value) (h : stopV P (adv P st) = .buildS (some (e, sz, bt, z)) es.length (es.zipIdx.map fun p => (p.2, p.1))) (ho : ElsOK sz es) (hzs : z.cells.size = sz) (hsz : 0 < sz) (hn0 : 0 < es.length) (hb : es.length * sz ≤ 16777216)
  (k : ∀ g m', ArrAt m m' (.slice (some ⟨g, 0, none⟩) es.length es.length) e sz es → G P fn Post (nx (adv P st) (.slice (some ⟨g, 0, none⟩) es.length es.length)) u m') : G P fn Post st u m := by
 refine G.big (K := fun v' u' m' => u' = u ∧ PH.le m m' ∧ ∃ g, v' = .slice (some ⟨g, 0, none⟩) es.length es.length ∧ ArrAt m m' (.slice (some ⟨g, 0, none⟩) es.length es.length) e sz es) h (by simp) (fun env op hv => ?_) (.inl fun v u' m' hk => hk.2.1) (fun env o hview w hgd => ?_) (fun v' u' m' hle hk => ?_)
 ·obtain ⟨t, qs, rfl, _⟩ := view_buildS hv; rfl
 ·obtain ⟨t, qs, e1, e2, hi⟩ := view_buildS hview
  obtain ⟨dst, opp, type, pos, after, guard⟩ := o
  simp only at e1; subst e1
  obtain ⟨hu, i, hi1, hi2, rfl, rfl⟩ := elInfo_spec hi
  obtain ⟨g1, g2, g3, g4⟩ := hgd.newM (cs := (flat es).toArray) (t := e) (by simpa using flat_ok ho)
  have hfl := flat_length ho
  have hne : es.length * i.size ≠ 0 := by have := Nat.mul_pos hn0 hsz; omega
  have hfill := fill_els es 0 ((Array.range (es.length * i.size)).map (z.cells[· % z.cells.size]!)) ho (by simp)
  have e0 : ((Array.range (es.length * i.size)).map (z.cells[· % z.cells.size]!)).toList.drop (es.length * i.size) = [] := by
   apply List.drop_eq_nil_of_le; simp
  simp only [Nat.zero_mul, List.take_zero, List.nil_append, Nat.zero_add, e0, List.append_nil] at hfill
  refine does_value (w' := w.alloc (.cells (flat es).toArray e (0, 0))) (v := .slice (some ⟨w.heap.size, 0, none⟩) es.length es.length) ?_ ⟨u, _, g1, g2, rfl, le_upd _ g3, _, rfl, ho, .inr ⟨w.heap.size, es.length, [], g3, by rw [List.append_nil], rfl, Nat.le_refl _, by rw [List.append_nil, hfl], by simp⟩⟩
  simp only [execOp, e2]
  simp [Instr.buildSlice, run_underlying hu, sizeOf, typeInfo, zeroValue, hi1, hi2, hne, hfill, newRow, show ¬ 16777216 < es.length * i.size by omega]
 ·obtain ⟨rfl, _, g, rfl, hk⟩ := hk
  exact k g m' hk
end rules
def pc9 (x y : F4) (k : Nat) : Value := .agg #[.bool x.b, .slice x.a x.n x.c, .bool x.b', .slice x.a' x.n' x.c', .bool y.b, .slice y.a y.n y.c, .bool y.b', .slice y.a' y.n' y.c', .int .i64 (k : Int)]
theorem pc9_ok (x y : F4) (k : Nat) : ElsOK 9 [pc9 x y k] := by
 intro v hv
 simp at hv; subst hv
 refine ⟨rfl, fun z hz => ?_⟩
 simp [pc9, Value.cells] at hz
 rcases hz with rfl | rfl | rfl | rfl | rfl | rfl | rfl | rfl | rfl <;> rfl
def zP : Value := .agg #[.bool false, .slice none 0 0, .bool false, .slice none 0 0, .bool false, .slice none 0 0, .bool false, .slice none 0 0, .int .i64 0]
structure Pc where
 x : F4
 y : F4
 lo : Rat
 hi : Rat
 k : Nat
def Pc.val (p : Pc) : Value := pc9 p.x p.y p.k
def Pc.plain (p : Pc) : Rat × Rat × Nat := (p.lo, p.hi, p.k)
structure PcOK (u : PH) (p : Pc) : Prop where
 lo : FracP u (fv p.x) p.lo
 hi : FracP u (fv p.y) p.hi
 k : p.k ≤ 60
theorem PcOK.mono {u u' : PH} {p : Pc} (h : PcOK u p) (hl : PH.le u u') : PcOK u' p := ⟨h.lo.mono hl, h.hi.mono hl, h.k⟩
def stArr (v : Value) (es : List Value) : Arr := ⟨v, 105, 9, es⟩
def ivArr (v : Value) (es : List Value) : Arr := ⟨v, 59, 2, es⟩
def muArr (v : Value) (es : List Value) : Arr := ⟨v, 3, 1, es⟩
def ivV (x : Rat × Rat × Int) : Value := .agg #[.string (mkS (ratT x.1)), .string (mkS (ratT x.2.1))]
def muV (x : Rat × Rat × Int) : Value := .int .i64 x.2.2
theorem ivV_ok (l : List (Rat × Rat × Int)) : ElsOK 2 (l.map ivV) := by
 intro e he
 obtain ⟨x, _, rfl⟩ := List.mem_map.1 he
 exact ⟨rfl, fun y hy => by simp [ivV, Value.cells] at hy; rcases hy with rfl | rfl <;> rfl⟩
theorem muV_ok (l : List (Rat × Rat × Int)) : ElsOK 1 (l.map muV) := by
 intro e he
 obtain ⟨x, _, rfl⟩ := List.mem_map.1 he
 exact ⟨rfl, fun y hy => by simp [muV, Value.cells] at hy; subst hy; rfl⟩
def SpecP (u : PH) (v : Value) (res : List (Rat × Rat × Int)) : Prop := ∃ a c a' c', v = .agg #[.slice a res.length c, .slice a' res.length c'] ∧ ListP u (.slice a res.length c) 2 (res.map ivV) ∧ ListP u (.slice a' res.length c') 1 (res.map muV)
structure SpI where
 f : Nat
 st : List Pc
 out : List (Rat × Rat × Int)
 sa : Option Addr
 sn : Nat
 sc : Nat
 ia : Option Addr
 ic : Nat
 ma : Option Addr
 mc : Nat
def specR (all sim : List Rat) (h : Nat) : Nat → List (Rat × Rat × Nat) → List (Rat × Rat × Int) → Option (Option (List (Rat × Rat × Int)))
 | 0, _, _ => none
 | _ + 1, [], out => some (some out)
 | f + 1, x :: st, out =>
  if smallB x.1 && smallB x.2.1 then
   if withinL sim x.1 x.2.1 = 0 then specR all sim h f st out
   else if withinL sim x.1 x.2.1 = 1 ∧ h ≤ x.2.2 then specR all sim h f st (out ++ [(x.1, x.2.1, withinL all x.1 x.2.1)])
   else if 60 ≤ x.2.2 then some none
   else specR all sim h f ((x.1, (x.1 + x.2.1) / 2, x.2.2 + 1) :: ((x.1 + x.2.1) / 2, x.2.1, x.2.2 + 1) :: st) out
  else none
theorem specR_of {all sim : List Rat} {h : Nat} {res : List (Rat × Rat × Int)} : ∀ (f : Nat) (st : List (Rat × Rat × Nat)) (out : List (Rat × Rat × Int)), specGo all sim h f st out = some res → specR all sim h f st out = some (some res)
 | 0, _, _, e => by simp [specGo] at e
 | f + 1, [], out, e => by simp only [specGo, Option.some.injEq] at e; rw [specR, e]
 | f + 1, x :: st, out, e => by
  rw [specGo] at e
  rw [specR]
  split at e
  ·rename_i h1
   rw [if_pos h1]
   split at e
   ·rename_i h2
    rw [if_pos h2]; exact specR_of f _ _ e
   ·rename_i h2
    rw [if_neg h2]
    split at e
    ·rename_i h3
     rw [if_pos h3]; exact specR_of f _ _ e
    ·rename_i h3
     rw [if_neg h3]
     split at e
     ·cases e
     ·rename_i h4
      rw [if_neg h4]; exact specR_of f _ _ e
  ·cases e
def SpecRes (u : PH) (v : Value) : Option (List (Rat × Rat × Int)) → Prop
 | some res => ∃ r, v = .tuple #[r, .int .i64 0] ∧ SpecP u r res
 | none => v = .tuple #[.agg #[.slice none 0 0, .slice none 0 0], .int .i64 3]
theorem SpecRes.mk {u : PH} {v : Value} {res : List (Rat × Rat × Int)} (h : ∃ r, v = .tuple #[r, .int .i64 0] ∧ SpecP u r res) : SpecRes u v (some res) := h
set_option maxHeartbeats 8000000 in
theorem spectrumG {u : PH} {v : Value} {A : List (List Rat)} {T S fS F fu h : Nat} {res : Option (List (Rat × Rat × Int))} (ht : TabU u) (hm : MatP u v (matT A)) (hA : Nice A T) (htx : ∀ q ∈ charL A, Tx q) (hSS : SzL (charL A) (cb T A.length) → SzL (charL A) S) (hST : S + 13 ≤ 500000) (hh : h ≤ 60) (hS : SimP fS (charL A))
  (hs1 : simpL fS (charL A) ≠ []) (hs2 : (simpL fS (charL A)).length ≤ 5) (hs3 : gR (simpL fS (charL A)) ((simpL fS (charL A)).length - 1) ≠ 0) (hs4 : SzL (simpL fS (charL A)) 400000)
  (hb : bndB F A A.length 0 1 = true) (hb2 : smallB (bndL F A) = true) (hfu : fu ≤ 100000) (hgo : specR (charL A) (simpL fS (charL A)) h fu [(-(bndL F A + 1), bndL F A + 1, 0)] [] = some res) :
  Fn0 Tryz.prog 24 [v, .int .i64 (h : Int)] u fun v' u' => SpecRes u' v' res := by
 have hpo := fun (u' : PH) (v : Value) (ht' : TabU u') (hv : MatP u' v (matT A)) => polynomial0 ht' hv hA htx
 have hch := fun (u' : PH) (v : Value) (hv : MatP u' v (matT A)) => char0 hv hA.sq hA.le hA.tle hA.sz
 have hbo := fun (u' : PH) (v : Value) (hv : MatP u' v (matT A)) => bound0 hv hA hb
 have hle := hA.le
 have hcl := charL_length A
 have hclast : gR (charL A) ((charL A).length - 1) ≠ 0 := by rw [hcl, Nat.add_sub_cancel, charL_last]; decide
 have hcne : charL A ≠ [] := by intro e; rw [e] at hcl; simp at hcl
 have one : ((1 : Int) : Rat) = 1 := by decide
 have two : ((2 : Int) : Rat) = 2 := by decide
 have two0 : (2 : Rat) ≠ 0 := by decide
 have s2 : Sz (2 : Rat) 1 := sz_one (z := 2) (by decide)
 generalize hsim : simpL fS (charL A) = sim at *
 generalize hall : charL A = all at *
 obtain ⟨hbt, hbs⟩ := smallB_spec hb2
 have hes : Sz (bndL F A + 1) 14 := (sz_add2 hbs (sz_one (z := 1) (by decide))).mono (by omega)
 obtain ⟨a, c, rfl⟩ := hm.opn
 refine Fn0.of Tryz.func24 (by kernel_rfl) (by kernel_rfl) ?_
 refine G.call0 _ _ (by kernel_rfl) Tryz.call16 (hpo _ _ ht hm) ?_
 rintro v1 u1 l1 ⟨r1, rfl, k1⟩
 obtain ⟨a1, c1, rfl⟩ := ListP.opn k1
 refine G.neqF 0 0 (by kernel_rfl) (by omega) ?_
 refine G.lssF (h : Int) 0 (by kernel_rfl) (by omega) ?_
 refine G.gtrF (h : Int) 60 (by kernel_rfl) (by omega) ?_
 refine G.call0 _ _ (by kernel_rfl) Tryz.call48 (hch _ _ (hm.mono l1)) ?_
 rintro v2 u2 l2 ⟨k2, sz2⟩
 replace sz2 := hSS sz2
 obtain ⟨a2, c2, rfl⟩ := k2.opn
 refine G.call0 _ _ (by kernel_rfl) Tryz.call57 (simple0 k2 hS) ?_
 intro v3 u3 l3 k3
 rw [hsim] at k3
 obtain ⟨a3, c3, rfl⟩ := k3.opn
 refine G.call0 _ _ (by kernel_rfl) Tryz.call58 (hbo _ _ (hm.mono ((l1.trans l2).trans l3))) ?_
 intro v4 u4 l4 k4
 obtain ⟨f4, rfl⟩ := k4.opF
 refine G.call0 _ _ (by kernel_rfl) Tryz.call60 (fracOf0 (z := 1) (by omega) (by omega)) ?_
 intro v5 u5 l5 k5
 rw [one] at k5
 obtain ⟨f5, rfl⟩ := k5.opF
 refine G.call0 _ _ (by kernel_rfl) Tryz.call59 (fracAdd0 (k4.mono l5) k5 (hbs.mono (by omega)) ((sz_one (z := 1) (by decide)).mono (by omega))) ?_
 intro v6 u6 l6 k6
 obtain ⟨f6, rfl⟩ := k6.opF
 generalize bndL F A + 1 = E at *
 refine G.call0 _ _ (by kernel_rfl) Tryz.call61 (fracNeg0 k6 (Nat.le_trans hes.1 (by omega))) ?_
 intro v7 u7 l7 k7
 obtain ⟨f7, rfl⟩ := k7.opF
 refine G.buildM 105 9 136 zP [pc9 f7 f6 0] (by kernel_rfl) (pc9_ok _ _ _) rfl (by omega) (by simp) (by simp) ?_
 intro g8 m8 hA8
 have hlu : PH.le u u7 := (((((l1.trans l2).trans l3).trans l4).trans l5).trans l6).trans l7
 have hbag0 : Bag m8 [stArr (.slice (some ⟨g8, 0, none⟩) 1 1) [pc9 f7 f6 0], ivArr (.slice none 0 0) [], muArr (.slice none 0 0) []] := ⟨PH.mt, hA8, PH.mt, ArrAt.nil _ _ _, PH.mt, ArrAt.nil _ _ _, trivial⟩
 refine G.loop (ι := SpI) (fun i => [(1, .v (.int .i64 (h : Int))), (4, .p 0 0), (8, .v (.slice a2 all.length c2)), (9, .v (.slice a3 sim.length c3)), (11, .v (.slice i.sa i.sn i.sc)), (12, .p 10000 0)])
  (fun i => [(0, ⟨54, [.v (.slice none 0 0), .v (.slice none 0 0)]⟩), (10000, ⟨54, [.v (.slice i.ia i.out.length i.ic), .v (.slice i.ma i.out.length i.mc)]⟩)])
  (fun i u' m' => specR all sim h i.f (i.st.map Pc.plain) i.out = some res ∧ i.f ≤ fu ∧ i.sn = i.st.length ∧ i.st.length + i.f ≤ fu + 1 ∧ i.out.length + i.f ≤ fu ∧ (∀ p ∈ i.st, PcOK u' p) ∧ Bag m' [stArr (.slice i.sa i.sn i.sc) (i.st.map Pc.val).reverse, ivArr (.slice i.ia i.out.length i.ic) (i.out.map ivV), muArr (.slice i.ma i.out.length i.mc) (i.out.map muV)])
  (fun i => i.f) ⟨fu, [⟨f7, f6, -E, E, 0⟩], [], some ⟨g8, 0, none⟩, 1, 1, none, 0, none, 0⟩ (by kernel_rfl) (fun _ => by kernel_rfl) ⟨by kernel_rfl, by kernel_rfl, by kernel_rfl⟩
  ⟨hgo, Nat.le_refl _, rfl, by simp; omega, by simp, fun p hp => by simp at hp; subst hp; exact ⟨k7, k6.mono l7, Nat.zero_le _⟩, hbag0⟩ ?_
 clear hbag0 hA8
 rintro J ⟨f, st, out, sa, sn, sc, ia, ic, ma, mc⟩ hJ u8 m9 l8 ⟨hg, hf, hsn, hfl, hol, hpk, hbag⟩
 simp only at hg hf hsn hfl hol hpk hbag hJ
 subst hsn
 have hlu8 : PH.le u u8 := hlu.trans l8
 have kall : FracsP u8 (.slice a2 all.length c2) all := k2.mono (((((l3.trans l4).trans l5).trans l6).trans l7).trans l8)
 have ksim : FracsP u8 (.slice a3 sim.length c3) sim := k3.mono ((((l4.trans l5).trans l6).trans l7).trans l8)
 cases f with
 | zero => simp [specR] at hg
 | succ f =>
  cases st with
  | nil =>
   refine G.gtrF ((0 : Nat) : Int) 0 (by kernel_rfl) (by omega) ?_
   simp only [List.map_nil, specR, Option.some.injEq] at hg
   subst hg
   obtain ⟨m0, hx0, hbag2⟩ := hbag.take 1 rfl
   refine G.give m0 (out.map ivV) (.slice ia out.length ic) (t := 59) (sz := 2) (by kernel_rfl) hx0 (fun _ => .inl rfl) ?_
   intro u9 l9 hL9
   obtain ⟨m1, hx1, _⟩ := hbag2.take 1 rfl
   refine G.give m1 (out.map muV) (.slice ma out.length mc) (t := 3) (sz := 1) (by kernel_rfl) hx1 (fun _ => .inl rfl) ?_
   intro u10 l10 hL10
   refine G.drop PH.mt (by kernel_rfl) (PH.mt_le _) ?_
   exact G.ret (.tuple #[.agg #[.slice ia out.length ic, .slice ma out.length mc], .int .i64 0]) (by kernel_rfl) ⟨rfl, SpecRes.mk ⟨_, rfl, ia, ic, ma, mc, rfl, hL9.mono l10, hL10⟩⟩
  | cons p st =>
   obtain ⟨px, py, lo, hi, k⟩ := p
   have hp := hpk ⟨px, py, lo, hi, k⟩ (by simp)
   obtain ⟨hplo, hphi, hpkk⟩ := hp
   simp only at hplo hphi hpkk
   simp only [List.map_cons, Pc.plain, specR] at hg
   have hsm : (smallB lo && smallB hi) = true := by
    cases hc : (smallB lo && smallB hi) with
    | true => rfl
    | false => simp [hc] at hg
   rw [if_pos hsm] at hg
   rw [Bool.and_eq_true] at hsm
   obtain ⟨tlo, slo⟩ := smallB_spec hsm.1
   obtain ⟨thi, shi⟩ := smallB_spec hsm.2
   have hrev : ((⟨px, py, lo, hi, k⟩ :: st).map Pc.val).reverse = (st.map Pc.val).reverse ++ [pc9 px py k] := by simp [Pc.val]
   rw [hrev] at hbag
   obtain ⟨gs, cs, e⟩ := hbag.ptr 0 rfl (by simp [stArr])
   simp only [stArr, Value.slice.injEq] at e
   obtain ⟨rfl, _, rfl⟩ := e
   simp only [List.length_cons] at hfl hbag ⊢
   have hcap : st.length + 1 ≤ sc := by
    obtain ⟨m0, hx0, _⟩ := hbag.focus 0 rfl
    exact ArrAt.cap (show ArrAt m0 m9 (.slice (some ⟨gs, 0, none⟩) (st.length + 1) sc) _ 9 _ from hx0)
   have hEl : ElP m9 gs (0 + st.length * 9) (pc9 px py k) := hbag.el 0 rfl rfl (by show ((st.map Pc.val).reverse ++ [pc9 px py k])[st.length]? = _; rw [List.getElem?_append_right (by simp)]; simp)
   refine G.gtrT ((st.length + 1 : Nat) : Int) 0 (by kernel_rfl) (by omega) ?_
   refine G.sub ((st.length + 1 : Nat) : Int) 1 (st.length : Int) (by kernel_rfl) (by omega) (by omega) (by omega) ?_
   refine G.addr gs 0 (st.length + 1) sc st.length 9 (by kernel_rfl) (by omega) ?_
   refine G.loadM (some 9) gs (0 + st.length * 9) _ (by kernel_rfl) (by kernel_rfl) hEl ?_
   refine G.sub ((st.length + 1 : Nat) : Int) 1 (st.length : Int) (by kernel_rfl) (by omega) (by omega) (by omega) ?_
   refine G.sliceTo 9 (some ⟨gs, 0, none⟩) (st.length + 1) sc st.length (by kernel_rfl) (by omega) ?_
   have hbag2 : Bag m9 [stArr (.slice (some ⟨gs, 0, none⟩) st.length sc) (st.map Pc.val).reverse, ivArr (.slice ia out.length ic) (out.map ivV), muArr (.slice ma out.length mc) (out.map muV)] := by
    obtain ⟨m0, hx0, hput⟩ := hbag.focus 0 rfl
    have hx1 := ArrAt.take (show ArrAt m0 m9 (.slice (some ⟨gs, 0, none⟩) (st.length + 1) sc) 105 9 ((st.map Pc.val).reverse ++ [pc9 px py k]) from hx0) (k := st.length) (by simp)
    rw [List.take_left' (by simp)] at hx1
    exact hput (stArr (.slice (some ⟨gs, 0, none⟩) st.length sc) (st.map Pc.val).reverse) m9 hx1
   clear hbag hEl
   have hpk' : ∀ p ∈ st, PcOK u8 p := fun p hp => hpk p (by simp [hp])
   refine G.call0 _ _ (by kernel_rfl) Tryz.call62 (within0 (y := fv px) (z := fv py) (T := 12) ksim hplo hphi hs4 slo shi (by omega) hs2 hs1 hs3) ?_
   rintro v10 u10 l10 rfl
   by_cases hn0 : withinL sim lo hi = 0
   ·rw [if_pos hn0] at hg
    refine G.eqlT (withinL sim lo hi) 0 (by kernel_rfl) hn0 ?_
    exact G.back (by kernel_rfl) (hJ ⟨f, st, out, some ⟨gs, 0, none⟩, st.length, sc, ia, ic, ma, mc⟩ _ _ _ ⟨by kernel_rfl, by kernel_rfl, by kernel_rfl⟩ (l8.trans l10) ⟨hg, by dsimp only; omega, rfl, by dsimp only; omega, by dsimp only; omega, fun p hp => (hpk' p hp).mono l10, hbag2⟩ (by dsimp only; omega))
   ·rw [if_neg hn0] at hg
    refine G.eqlF (withinL sim lo hi) 0 (by kernel_rfl) hn0 ?_
    by_cases hn1 : withinL sim lo hi = 1 ∧ h ≤ k
    ·rw [if_pos hn1] at hg
     refine G.eqlT (withinL sim lo hi) 1 (by kernel_rfl) hn1.1 ?_
     refine G.geqT (k : Int) (h : Int) (by kernel_rfl) (by omega) ?_
     refine G.buildU 90 4 64 zF [fv px, fv py] (by kernel_rfl) (ElsOK.append (a := [fv px]) (b := [fv py]) (fv_ok _) (fv_ok _)) rfl (by omega) (by simp) (by simp) ?_
     intro g11 u11 l11 e11
     have hFP : FracsP u11 (.slice (some ⟨g11, 0, none⟩) 2 2) [lo, hi] := ⟨[fv px, fv py], ⟨_, 2, rfl, Nat.le_refl _, fun j e hj => ⟨g11, 0, rfl, e11 j e hj⟩⟩, by
      have h1 := AtP.snoc (R := FracP) (u := u11) (es := []) (xs := []) AtP.nil (hplo.mono (l10.trans l11))
      exact h1.snoc (hphi.mono (l10.trans l11))⟩
     refine G.call0 _ _ (by kernel_rfl) Tryz.call51 (fracTexts0 (ht.mono ((hlu8.trans l10).trans l11)) hFP (by intro q hq; simp at hq; rcases hq with rfl | rfl; exact tlo; exact thi) (by simp)) ?_
     rintro v12 u12 l12 ⟨r12, rfl, k12⟩
     obtain ⟨a12, c12, rfl⟩ := ListP.opn k12
     refine G.neqF 0 0 (by kernel_rfl) (by omega) ?_
     obtain ⟨b13, o13, rfl, e13⟩ := ListP.at' k12 (j := 0) (e := .string (mkS (ratT lo))) rfl
     obtain ⟨b14, o14, eq14, e14⟩ := ListP.at' k12 (j := 1) (e := .string (mkS (ratT hi))) rfl
     cases eq14
     refine G.addr b13 o13 2 c12 0 1 (by kernel_rfl) (by omega) ?_
     refine G.loadU none b13 (o13 + 0 * 1) _ (by kernel_rfl) (by kernel_rfl) e13 ?_
     refine G.addr b13 o13 2 c12 1 1 (by kernel_rfl) (by omega) ?_
     refine G.loadU none b13 (o13 + 1 * 1) _ (by kernel_rfl) (by kernel_rfl) e14 ?_
     refine G.buildU 59 2 32 (.agg #[.string (mkS []), .string (mkS [])]) [ivV (lo, hi, withinL all lo hi)] (by kernel_rfl) (ivV_ok [(lo, hi, withinL all lo hi)]) rfl (by omega) (by simp) (by simp) ?_
     intro g15 u15 l15 e15
     obtain ⟨m0, hx0, hput⟩ := hbag2.focus 1 rfl
     refine G.append 59 2 32 (.agg #[.string (mkS []), .string (mkS [])]) m0 (out.map ivV) [ivV (lo, hi, withinL all lo hi)] (.slice ia out.length ic) g15 0 1 1 (by kernel_rfl) rfl rfl (by omega) hx0 e15 (ivV_ok [(lo, hi, withinL all lo hi)]) rfl (by omega) (by simp; omega) (by simp; omega) ?_
     intro v16 m16 hx16
     obtain ⟨a16, c16, rfl⟩ := hx16.shape
     have hbag3 := hput (ivArr (.slice a16 (out.map ivV ++ [ivV (lo, hi, withinL all lo hi)]).length c16) (out.map ivV ++ [ivV (lo, hi, withinL all lo hi)])) m16 hx16
     refine G.call0 _ _ (by kernel_rfl) Tryz.call62 (within0 (y := fv px) (z := fv py) (T := 12) (kall.mono (((l10.trans l11).trans l12).trans l15)) (hplo.mono (((l10.trans l11).trans l12).trans l15)) (hphi.mono (((l10.trans l11).trans l12).trans l15)) sz2 slo shi (by omega) (by omega) hcne hclast) ?_
     rintro v17 u17 l17 rfl
     refine G.buildU 3 1 8 (.int .i64 0) [muV (lo, hi, withinL all lo hi)] (by kernel_rfl) (muV_ok [(lo, hi, withinL all lo hi)]) rfl (by omega) (by simp) (by simp) ?_
     intro g18 u18 l18 e18
     obtain ⟨m0', hx0', hput'⟩ := hbag3.focus 2 rfl
     refine G.append 3 1 8 (.int .i64 0) m0' (out.map muV) [muV (lo, hi, withinL all lo hi)] (.slice ma out.length mc) g18 0 1 1 (by kernel_rfl) rfl rfl (by omega) hx0' e18 (muV_ok [(lo, hi, withinL all lo hi)]) rfl (by omega) (by simp; omega) (by simp; omega) ?_
     intro v19 m19 hx19
     obtain ⟨a19, c19, rfl⟩ := hx19.shape
     have hbag4 := hput' (muArr (.slice a19 (out.map muV ++ [muV (lo, hi, withinL all lo hi)]).length c19) (out.map muV ++ [muV (lo, hi, withinL all lo hi)])) m19 hx19
     have el1 : (out.map ivV ++ [ivV (lo, hi, withinL all lo hi)]).length = (out ++ [(lo, hi, withinL all lo hi)]).length := by simp
     have el2 : (out.map muV ++ [muV (lo, hi, withinL all lo hi)]).length = (out ++ [(lo, hi, withinL all lo hi)]).length := by simp
     have em1 : out.map ivV ++ [ivV (lo, hi, withinL all lo hi)] = (out ++ [(lo, hi, withinL all lo hi)]).map ivV := by simp
     have em2 : out.map muV ++ [muV (lo, hi, withinL all lo hi)] = (out ++ [(lo, hi, withinL all lo hi)]).map muV := by simp
     have hbag5 : Bag m19 [stArr (.slice (some ⟨gs, 0, none⟩) st.length sc) (st.map Pc.val).reverse, ivArr (.slice a16 (out ++ [(lo, hi, withinL all lo hi)]).length c16) ((out ++ [(lo, hi, withinL all lo hi)]).map ivV), muArr (.slice a19 (out ++ [(lo, hi, withinL all lo hi)]).length c19) ((out ++ [(lo, hi, withinL all lo hi)]).map muV)] := by
      rw [el2, em2, el1, em1] at hbag4; exact hbag4
     rw [el1, el2]
     exact G.back (by kernel_rfl) (hJ ⟨f, st, out ++ [(lo, hi, withinL all lo hi)], some ⟨gs, 0, none⟩, st.length, sc, a16, c16, a19, c19⟩ _ _ _ ⟨by kernel_rfl, by kernel_rfl, by kernel_rfl⟩ ((((((l8.trans l10).trans l11).trans l12).trans l15).trans l17).trans l18) ⟨hg, by dsimp only; omega, rfl, by dsimp only; omega, by dsimp only; simp; omega, fun p hp => (hpk' p hp).mono (((((l10.trans l11).trans l12).trans l15).trans l17).trans l18), hbag5⟩ (by dsimp only; omega))
    ·rw [if_neg hn1] at hg
     by_cases hk60 : 60 ≤ k
     ·rw [if_pos hk60] at hg
      have hr : res = none := (Option.some.inj hg).symm
      subst hr
      refine G.eqlF (withinL sim lo hi) 1 (by kernel_rfl) (fun e => hn1 ⟨e, by omega⟩) ?_
      refine G.eqlT (k : Int) 60 (by kernel_rfl) (by omega) ?_
      refine G.drop PH.mt (by kernel_rfl) (PH.mt_le _) ?_
      exact G.ret (.tuple #[.agg #[.slice none 0 0, .slice none 0 0], .int .i64 3]) (by kernel_rfl) ⟨rfl, rfl⟩
     rw [if_neg hk60] at hg
     by_cases h1 : withinL sim lo hi = 1
     ·refine G.eqlT (withinL sim lo hi) 1 (by kernel_rfl) h1 ?_
      refine G.geqF (k : Int) (h : Int) (by kernel_rfl) (by intro hc; exact hn1 ⟨h1, by omega⟩) ?_
      refine G.eqlF (k : Int) 60 (by kernel_rfl) (by omega) ?_
      refine G.call0 _ _ (by kernel_rfl) Tryz.call59 (fracAdd0 (hplo.mono l10) (hphi.mono l10) (slo.mono (by omega)) (shi.mono (by omega))) ?_
      intro v11 u11 l11 k11
      obtain ⟨f11, rfl⟩ := k11.opF
      refine G.call0 _ _ (by kernel_rfl) Tryz.call60 (fracOf0 (z := 2) (by omega) (by omega)) ?_
      intro v12 u12 l12 k12
      rw [two] at k12
      obtain ⟨f12, rfl⟩ := k12.opF
      refine G.call0 _ _ (by kernel_rfl) Tryz.call63 (fracDiv0 (k11.mono l12) k12 ((sz_add2 slo shi).mono (by omega)) (s2.mono (by omega)) two0) ?_
      intro v13 u13 l13 k13
      obtain ⟨f13, rfl⟩ := k13.opF
      refine G.add (k : Int) 1 ((k + 1 : Nat) : Int) (by kernel_rfl) (by omega) (by omega) (by omega) ?_
      refine G.add (k : Int) 1 ((k + 1 : Nat) : Int) (by kernel_rfl) (by omega) (by omega) (by omega) ?_
      refine G.buildU 105 9 136 zP [pc9 f13 py (k + 1), pc9 px f13 (k + 1)] (by kernel_rfl) (ElsOK.append (a := [pc9 f13 py (k + 1)]) (b := [pc9 px f13 (k + 1)]) (pc9_ok _ _ _) (pc9_ok _ _ _)) rfl (by omega) (by simp) (by simp) ?_
      intro g14 u14 l14 e14
      obtain ⟨m0, hx0, hput⟩ := hbag2.focus 0 rfl
      refine G.append 105 9 136 zP m0 (st.map Pc.val).reverse [pc9 f13 py (k + 1), pc9 px f13 (k + 1)] (.slice (some ⟨gs, 0, none⟩) st.length sc) g14 0 2 2 (by kernel_rfl) rfl rfl (by omega) hx0 e14 (ElsOK.append (a := [pc9 f13 py (k + 1)]) (b := [pc9 px f13 (k + 1)]) (pc9_ok _ _ _) (pc9_ok _ _ _)) rfl (by omega) (by simp; omega) (by simp; omega) ?_
      intro v15 m15 hx15
      obtain ⟨a15, c15, rfl⟩ := hx15.shape
      have el : ((st.map Pc.val).reverse ++ [pc9 f13 py (k + 1), pc9 px f13 (k + 1)]).length = st.length + 1 + 1 := by simp
      have hbag3 := hput (stArr (.slice a15 ((st.map Pc.val).reverse ++ [pc9 f13 py (k + 1), pc9 px f13 (k + 1)]).length c15) ((st.map Pc.val).reverse ++ [pc9 f13 py (k + 1), pc9 px f13 (k + 1)])) m15 hx15
      have er : (st.map Pc.val).reverse ++ [pc9 f13 py (k + 1), pc9 px f13 (k + 1)] = ((⟨px, f13, lo, (lo + hi) / 2, k + 1⟩ :: ⟨f13, py, (lo + hi) / 2, hi, k + 1⟩ :: st : List Pc).map Pc.val).reverse := by simp [Pc.val]
      rw [el, er] at hbag3
      rw [el]
      have hll : PH.le u8 u14 := (((l10.trans l11).trans l12).trans l13).trans l14
      refine G.back (by kernel_rfl) (hJ ⟨f, ⟨px, f13, lo, (lo + hi) / 2, k + 1⟩ :: ⟨f13, py, (lo + hi) / 2, hi, k + 1⟩ :: st, out, a15, st.length + 1 + 1, c15, ia, ic, ma, mc⟩ _ _ _ ⟨by kernel_rfl, by kernel_rfl, by kernel_rfl⟩ (l8.trans hll) ⟨hg, by dsimp only; omega, rfl, by dsimp only; simp; omega, by dsimp only; omega, ?_, hbag3⟩ (by dsimp only; omega))
      intro p hp
      rcases List.mem_cons.1 hp with rfl | hp
      ·exact ⟨hplo.mono hll, k13.mono l14, by dsimp only; omega⟩
      rcases List.mem_cons.1 hp with rfl | hp
      ·exact ⟨k13.mono l14, hphi.mono hll, by dsimp only; omega⟩
      exact (hpk' p hp).mono hll
     ·refine G.eqlF (withinL sim lo hi) 1 (by kernel_rfl) h1 ?_
      refine G.eqlF (k : Int) 60 (by kernel_rfl) (by omega) ?_
      refine G.call0 _ _ (by kernel_rfl) Tryz.call59 (fracAdd0 (hplo.mono l10) (hphi.mono l10) (slo.mono (by omega)) (shi.mono (by omega))) ?_
      intro v11 u11 l11 k11
      obtain ⟨f11, rfl⟩ := k11.opF
      refine G.call0 _ _ (by kernel_rfl) Tryz.call60 (fracOf0 (z := 2) (by omega) (by omega)) ?_
      intro v12 u12 l12 k12
      rw [two] at k12
      obtain ⟨f12, rfl⟩ := k12.opF
      refine G.call0 _ _ (by kernel_rfl) Tryz.call63 (fracDiv0 (k11.mono l12) k12 ((sz_add2 slo shi).mono (by omega)) (s2.mono (by omega)) two0) ?_
      intro v13 u13 l13 k13
      obtain ⟨f13, rfl⟩ := k13.opF
      refine G.add (k : Int) 1 ((k + 1 : Nat) : Int) (by kernel_rfl) (by omega) (by omega) (by omega) ?_
      refine G.add (k : Int) 1 ((k + 1 : Nat) : Int) (by kernel_rfl) (by omega) (by omega) (by omega) ?_
      refine G.buildU 105 9 136 zP [pc9 f13 py (k + 1), pc9 px f13 (k + 1)] (by kernel_rfl) (ElsOK.append (a := [pc9 f13 py (k + 1)]) (b := [pc9 px f13 (k + 1)]) (pc9_ok _ _ _) (pc9_ok _ _ _)) rfl (by omega) (by simp) (by simp) ?_
      intro g14 u14 l14 e14
      obtain ⟨m0, hx0, hput⟩ := hbag2.focus 0 rfl
      refine G.append 105 9 136 zP m0 (st.map Pc.val).reverse [pc9 f13 py (k + 1), pc9 px f13 (k + 1)] (.slice (some ⟨gs, 0, none⟩) st.length sc) g14 0 2 2 (by kernel_rfl) rfl rfl (by omega) hx0 e14 (ElsOK.append (a := [pc9 f13 py (k + 1)]) (b := [pc9 px f13 (k + 1)]) (pc9_ok _ _ _) (pc9_ok _ _ _)) rfl (by omega) (by simp; omega) (by simp; omega) ?_
      intro v15 m15 hx15
      obtain ⟨a15, c15, rfl⟩ := hx15.shape
      have el : ((st.map Pc.val).reverse ++ [pc9 f13 py (k + 1), pc9 px f13 (k + 1)]).length = st.length + 1 + 1 := by simp
      have hbag3 := hput (stArr (.slice a15 ((st.map Pc.val).reverse ++ [pc9 f13 py (k + 1), pc9 px f13 (k + 1)]).length c15) ((st.map Pc.val).reverse ++ [pc9 f13 py (k + 1), pc9 px f13 (k + 1)])) m15 hx15
      have er : (st.map Pc.val).reverse ++ [pc9 f13 py (k + 1), pc9 px f13 (k + 1)] = ((⟨px, f13, lo, (lo + hi) / 2, k + 1⟩ :: ⟨f13, py, (lo + hi) / 2, hi, k + 1⟩ :: st : List Pc).map Pc.val).reverse := by simp [Pc.val]
      rw [el, er] at hbag3
      rw [el]
      have hll : PH.le u8 u14 := (((l10.trans l11).trans l12).trans l13).trans l14
      refine G.back (by kernel_rfl) (hJ ⟨f, ⟨px, f13, lo, (lo + hi) / 2, k + 1⟩ :: ⟨f13, py, (lo + hi) / 2, hi, k + 1⟩ :: st, out, a15, st.length + 1 + 1, c15, ia, ic, ma, mc⟩ _ _ _ ⟨by kernel_rfl, by kernel_rfl, by kernel_rfl⟩ (l8.trans hll) ⟨hg, by dsimp only; omega, rfl, by dsimp only; simp; omega, by dsimp only; omega, ?_, hbag3⟩ (by dsimp only; omega))
      intro p hp
      rcases List.mem_cons.1 hp with rfl | hp
      ·exact ⟨hplo.mono hll, k13.mono l14, by dsimp only; omega⟩
      rcases List.mem_cons.1 hp with rfl | hp
      ·exact ⟨k13.mono l14, hphi.mono hll, by dsimp only; omega⟩
      exact (hpk' p hp).mono hll
theorem spectrum1 {u : PH} {v : Value} {A : List (List Rat)} {T fS F fu h : Nat} {res : Option (List (Rat × Rat × Int))} (ht : TabU u) (hm : MatP u v (matT A)) (hA : Nice A T) (htx : ∀ q ∈ charL A, Tx q) (hST : cb T A.length + 13 ≤ 500000) (hh : h ≤ 60) (hS : SimP fS (charL A))
  (hs1 : simpL fS (charL A) ≠ []) (hs2 : (simpL fS (charL A)).length ≤ 5) (hs3 : gR (simpL fS (charL A)) ((simpL fS (charL A)).length - 1) ≠ 0) (hs4 : SzL (simpL fS (charL A)) 400000)
  (hb : bndB F A A.length 0 1 = true) (hb2 : smallB (bndL F A) = true) (hfu : fu ≤ 100000) (hgo : specR (charL A) (simpL fS (charL A)) h fu [(-(bndL F A + 1), bndL F A + 1, 0)] [] = some res) :
  Fn0 Tryz.prog 24 [v, .int .i64 (h : Int)] u fun v' u' => SpecRes u' v' res :=
 spectrumG ht hm hA htx id hST hh hS hs1 hs2 hs3 hs4 hb hb2 hfu hgo
theorem spectrum0 {u : PH} {v : Value} {A : List (List Rat)} {T fS F fu h : Nat} {res : List (Rat × Rat × Int)} (ht : TabU u) (hm : MatP u v (matT A)) (hA : Nice A T) (htx : ∀ q ∈ charL A, Tx q) (hST : cb T A.length + 13 ≤ 500000) (hh : h ≤ 60) (hS : SimP fS (charL A))
  (hs1 : simpL fS (charL A) ≠ []) (hs2 : (simpL fS (charL A)).length ≤ 5) (hs3 : gR (simpL fS (charL A)) ((simpL fS (charL A)).length - 1) ≠ 0) (hs4 : SzL (simpL fS (charL A)) 400000)
  (hb : bndB F A A.length 0 1 = true) (hb2 : smallB (bndL F A) = true) (hfu : fu ≤ 100000) (hgo : specGo (charL A) (simpL fS (charL A)) h fu [(-(bndL F A + 1), bndL F A + 1, 0)] [] = some res) :
  Fn0 Tryz.prog 24 [v, .int .i64 (h : Int)] u fun v' u' => ∃ r, v' = .tuple #[r, .int .i64 0] ∧ SpecP u' r res :=
 spectrum1 ht hm hA htx hST hh hS hs1 hs2 hs3 hs4 hb hb2 hfu (specR_of _ _ _ hgo)
end Go.Proofs.YtldokelpolbnnaaGreatDoor
end
section
set_option linter.unusedSectionVars false
set_option linter.unusedVariables false
namespace Go.Proofs.YtldokelpolbnnaaGreatDoor
open Go.RowKit
section rules
variable {P : Program} [Mixed P] {fn : Func} {Post : Spec} {st : List KI × S} {u m : PH}
theorem view_fieldA {env : Operand → Value} {o : Op} {t : TypeId} {x : Value} {f : Nat} (h : viewOp P env o = .fieldA t x f) : ∃ X, o = .fieldAddr t X f ∧ env X = x := by
 cases o <;> simp only [viewOp] at h <;> try cases h
 any_goals ((repeat' split at h) <;> cases h; done)
 ·exact ⟨_, rfl, rfl⟩
theorem G.fieldA (t : TypeId) (b off f fo : Nat) (h : stopV P (adv P st) = .fieldA t (.pointer (some ⟨b, off, none⟩)) f) (hf : fieldOff P t f = some fo) (k : G P fn Post (nx (adv P st) (.pointer (some ⟨b, off + fo, none⟩))) u m) : G P fn Post st u m := by
 refine G.ask h (by simp) (fun env o hview w _ => ?_) k
 obtain ⟨X, e, e1⟩ := view_fieldA hview
 obtain ⟨dst, opp, type, pos, after, guard⟩ := o
 simp only at e; subst e
 unfold fieldOff at hf
 split at hf
 ·rename_i fs hfs
  split at hf
  ·rename_i fd hfd
   split at hf
   ·rename_i n hn
    simp only [Option.some.injEq] at hf
    subst hf
    simp [execOp, Instr.fieldAt, run_underlying hfs, hfd, Instr.sureAddr, e1, fieldPlace, run_sizeOf' hn, addr_add]
   ·cases hf
  ·cases hf
 ·cases hf
theorem G.remZ (x y z : Int) (h : stopV P (adv P st) = .bin .rem (.int .i64 x) (.int .i64 y)) (hy : 0 < y) (hy2 : y ≤ 9223372036854775807) (hz : x.tmod y = z)
  (k : G P fn Post (nx (adv P st) (.int .i64 z)) u m) : G P fn Post st u m := by
 refine G.bin _ h guard_int (fun t w => ?_) k
 have h4 : ¬ y = 0 := by omega
 have h5 : -y < z ∧ z < y := by
  rw [← hz]
  have a1 := Int.tmod_lt_of_pos x hy
  have a2 := Int.lt_tmod_of_pos x hy
  exact ⟨a2, a1⟩
 simp [binOp, Op.intDiv, h4, hz]
end rules
end Go.Proofs.YtldokelpolbnnaaGreatDoor
end
section
set_option linter.unusedSectionVars false
set_option linter.unusedVariables false
namespace Go.Proofs.YtldokelpolbnnaaGreatDoor
open Go.RowKit
theorem ElP.part {u : PH} {b off : Nat} {x : Rat × Rat × Int} (h : ElP u b off (ivV x)) : ElP u b (off + 1) (.string (mkS (ratT x.2.1))) := by
 intro i y hy
 match i, hy with
 | 0, hy =>
  simp [Value.cells] at hy; subst hy
  exact h 1 _ rfl
set_option maxHeartbeats 4000000 in
theorem checkG {u : PH} {v r : Value} {A : List (List Rat)} {T S : Nat} {res : List (Rat × Rat × Int)} (ht : TabU u) (hm : MatP u v (matT A)) (hA : Nice A T) (htx : ∀ q ∈ charL A, Tx q) (hSS : SzL (charL A) (cb T A.length) → SzL (charL A) S) (hST : S + 13 ≤ 500000)
  (hX : ∀ x ∈ res, NiceX x.1 A.length 12 ∧ NiceX x.2.1 A.length 12) (hr : SpecP u r res) (hl : res.length ≤ 100000) (hc : chkGo (charL A) none res 0 = some (A.length : Int)) :
  Fn0 Tryz.prog 25 [v, r] u fun v' _ => v' = .bool true := by
 have hpo := fun (u' : PH) (v : Value) (ht' : TabU u') (hv : MatP u' v (matT A)) => polynomial0 ht' hv hA htx
 have hup := fun (u' : PH) (v : Value) (x : Rat) (ht' : TabU u') (hv : MatP u' v (matT A)) (hx : NiceX x A.length 12) => upToG ht' hv hA hx hSS (by omega)
 have hle := hA.le
 have hcl := charL_length A
 obtain ⟨a, c, rfl⟩ := hm.opn
 rw [matT_length] at hm ⊢
 obtain ⟨ai, ci, am, cm, rfl, hI, hM⟩ := hr
 refine Fn0.of Tryz.func25 (by kernel_rfl) (by kernel_rfl) ?_
 refine G.call0 _ _ (by kernel_rfl) Tryz.call16 (hpo _ _ ht hm) ?_
 rintro v1 u1 l1 ⟨r1, rfl, k1⟩
 obtain ⟨a1, c1, rfl⟩ := ListP.opn k1
 refine G.neqF 0 0 (by kernel_rfl) (by omega) ?_
 refine G.neqF (res.length : Int) (res.length : Int) (by kernel_rfl) (by omega) ?_
 refine G.loop (ι := Nat × Int × Option Rat) (fun i => [(0, .v (.slice a A.length c)), (3, .p 0 0), (7, .v (.int .i64 i.2.1)), (31, .v (.slice ai res.length ci)), (32, .v (.int .i64 (res.length : Int))), (33, .v (.int .i64 (i.1 : Int)))])
  (fun _ => [(0, ⟨54, [.v (.slice ai res.length ci), .v (.slice am res.length cm)]⟩)])
  (fun i u' m' => i.1 ≤ res.length ∧ -(1000 * i.1 : Int) ≤ i.2.1 ∧ i.2.1 ≤ 1000 * i.1 ∧ (∀ j x, i.1 = j + 1 → res[j]? = some x → i.2.2 = some x.2.1) ∧ chkGo (charL A) i.2.2 (res.drop i.1) i.2.1 = some (A.length : Int) ∧ m' = PH.mt)
  (fun i => res.length - i.1) (0, 0, none) (by kernel_rfl) (fun _ => by kernel_rfl) ⟨by kernel_rfl, by kernel_rfl, by kernel_rfl⟩ ⟨Nat.zero_le _, by simp, by simp, fun j x h => by simp at h, hc, rfl⟩ ?_
 rintro J ⟨i, s, pr⟩ hJ u2 m2 l2 ⟨hi, hs1, hs2, hpr, hgo, rfl⟩
 simp only at hi hs1 hs2 hpr hgo hJ
 by_cases hlt : i < res.length
 ·refine G.lssT (i : Int) (res.length : Int) (by kernel_rfl) (by omega) ?_
  have hti : res[i]? = some res[i] := List.getElem?_eq_getElem hlt
  obtain ⟨hx1, hx2⟩ := hX _ (List.getElem_mem hlt)
  rw [List.drop_eq_getElem_cons hlt] at hgo
  obtain ⟨x, hxe⟩ : ∃ x, res[i] = x := ⟨_, rfl⟩
  rw [hxe] at hti hx1 hx2 hgo
  rw [chkGo] at hgo
  split at hgo
  ·rename_i hcond
   simp only [Bool.and_eq_true, decide_eq_true_eq] at hcond
   obtain ⟨⟨⟨⟨⟨c1', c2'⟩, c3'⟩, c4'⟩, c5'⟩, c6'⟩ := hcond
   have hl2 : PH.le u u2 := l1.trans l2
   obtain ⟨b3, o3, rfl, e3⟩ := ListP.at' (hI.mono hl2) (j := i) (e := ivV x) (by simp [hti])
   refine G.addr b3 o3 res.length ci i 2 (by kernel_rfl) hlt ?_
   refine G.loadU (some 2) b3 (o3 + i * 2) (ivV x) (by kernel_rfl) (by kernel_rfl) e3 ?_
   refine G.call0 _ _ (by kernel_rfl) Tryz.call43 (ratValid0 hx1.tx) ?_
   rintro v4 u4 l4 rfl
   refine G.call0 _ _ (by kernel_rfl) Tryz.call43 (ratValid0 hx2.tx) ?_
   rintro v5 u5 l5 rfl
   refine G.call0 _ _ (by kernel_rfl) Tryz.call64 (ratCompare0 hx1.tx hx2.tx) ?_
   rintro v6 u6 l6 rfl
   have hneg : sgn (x.1 - x.2.1).num < 0 := by rw [sgn_num]; exact sg_lt.2 c3'
   refine G.geqF (sgn (x.1 - x.2.1).num) 0 (by kernel_rfl) (by omega) ?_
   have b1 := less_abs (charL A) x.1 (by omega)
   have b2 := less_abs (charL A) x.2.1 (by omega)
   have b3' := equal_abs (charL A) x.1 (by omega)
   have b4 := equal_abs (charL A) x.2.1 (by omega)
   obtain ⟨b7, o7, eq7, e7⟩ := ListP.at' (hM.mono hl2) (j := i) (e := muV x) (by simp [hti])
   subst eq7
   rcases Nat.eq_zero_or_pos i with hi0 | hi0
   ·subst hi0
    refine G.gtrF ((0 : Nat) : Int) 0 (by kernel_rfl) (by omega) ?_
    refine G.call0 _ _ (by kernel_rfl) Tryz.call65 (hup _ _ x.1 (ht.mono (((hl2.trans l4).trans l5).trans l6)) (hm.mono (((hl2.trans l4).trans l5).trans l6)) hx1) ?_
    rintro v8 u8 l8 rfl
    refine G.call0 _ _ (by kernel_rfl) Tryz.call65 (hup _ _ x.2.1 (ht.mono ((((hl2.trans l4).trans l5).trans l6).trans l8)) (hm.mono ((((hl2.trans l4).trans l5).trans l6).trans l8)) hx2) ?_
    rintro v9 u9 l9 rfl
    have hle9 : PH.le u2 u9 := ((((l4.trans l5).trans l6).trans l8).trans l9)
    refine G.sub (lessL (charL A) x.2.1 + (equalL (charL A) x.2.1 : Int)) (lessL (charL A) x.1 + (equalL (charL A) x.1 : Int)) x.2.2 (by kernel_rfl) c5' (by omega) (by omega) ?_
    refine G.addr b7 o7 res.length cm 0 1 (by kernel_rfl) hlt ?_
    refine G.loadU none b7 (o7 + 0 * 1) (muV x) (by kernel_rfl) (by kernel_rfl) (e7.mono hle9) ?_
    refine G.neqF x.2.2 x.2.2 (by kernel_rfl) (by simp) ?_
    refine G.addr b7 o7 res.length cm 0 1 (by kernel_rfl) hlt ?_
    refine G.loadU none b7 (o7 + 0 * 1) (muV x) (by kernel_rfl) (by kernel_rfl) (e7.mono hle9) ?_
    refine G.lssF x.2.2 1 (by kernel_rfl) (by omega) ?_
    refine G.addr b7 o7 res.length cm 0 1 (by kernel_rfl) hlt ?_
    refine G.loadU none b7 (o7 + 0 * 1) (muV x) (by kernel_rfl) (by kernel_rfl) (e7.mono hle9) ?_
    refine G.add s x.2.2 (s + x.2.2) (by kernel_rfl) rfl (by omega) (by omega) ?_
    refine G.add ((0 : Nat) : Int) 1 ((0 + 1 : Nat) : Int) (by kernel_rfl) (by omega) (by omega) (by omega) ?_
    refine G.back (by kernel_rfl) (hJ (0 + 1, s + x.2.2, some x.2.1) _ _ _ ⟨by kernel_rfl, by kernel_rfl, by kernel_rfl⟩ (l2.trans hle9) ⟨by dsimp only; omega, by dsimp only; omega, by dsimp only; omega, ?_, hgo, rfl⟩ (by dsimp only; omega))
    intro j' y' hj' hy'
    dsimp only at hj' ⊢
    obtain rfl : j' = 0 := by omega
    rw [hti] at hy'
    rw [Option.some.inj hy']
   ·obtain ⟨j, rfl⟩ : ∃ j, i = j + 1 := ⟨i - 1, by omega⟩
    have hjl : j < res.length := by omega
    have htj : res[j]? = some res[j] := List.getElem?_eq_getElem hjl
    have hpe := hpr j _ rfl htj
    obtain ⟨hy1, hy2⟩ := hX _ (List.getElem_mem hjl)
    obtain ⟨y, hye⟩ : ∃ y, res[j] = y := ⟨_, rfl⟩
    rw [hye] at htj hpe hy1 hy2
    subst hpe
    simp only [okPrev, decide_eq_true_eq] at c4'
    obtain ⟨b10, o10, eq10, e10⟩ := ListP.at' (hI.mono hl2) (j := j) (e := ivV y) (by simp [htj])
    cases eq10
    refine G.gtrT ((j + 1 : Nat) : Int) 0 (by kernel_rfl) (by omega) ?_
    refine G.sub ((j + 1 : Nat) : Int) 1 (j : Int) (by kernel_rfl) (by omega) (by omega) (by omega) ?_
    refine G.addr b3 o3 res.length ci j 2 (by kernel_rfl) hjl ?_
    refine G.fieldA 59 b3 (o3 + j * 2) 1 1 (by kernel_rfl) (by kernel_rfl) ?_
    refine G.loadU none b3 (o3 + j * 2 + 1) (.string (mkS (ratT y.2.1))) (by kernel_rfl) (by kernel_rfl) (e10.part.mono ((l4.trans l5).trans l6)) ?_
    refine G.call0 _ _ (by kernel_rfl) Tryz.call64 (ratCompare0 hx1.tx hy2.tx) ?_
    rintro v11 u11 l11 rfl
    have hnn : ¬ (sgn (x.1 - y.2.1).num < 0) := by rw [sgn_num]; intro h'; have := sg_lt.1 h'; grind
    refine G.lssF (sgn (x.1 - y.2.1).num) 0 (by kernel_rfl) hnn ?_
    refine G.call0 _ _ (by kernel_rfl) Tryz.call65 (hup _ _ x.1 (ht.mono ((((hl2.trans l4).trans l5).trans l6).trans l11)) (hm.mono ((((hl2.trans l4).trans l5).trans l6).trans l11)) hx1) ?_
    rintro v8 u8 l8 rfl
    refine G.call0 _ _ (by kernel_rfl) Tryz.call65 (hup _ _ x.2.1 (ht.mono (((((hl2.trans l4).trans l5).trans l6).trans l11).trans l8)) (hm.mono (((((hl2.trans l4).trans l5).trans l6).trans l11).trans l8)) hx2) ?_
    rintro v9 u9 l9 rfl
    have hle9 : PH.le u2 u9 := (((((l4.trans l5).trans l6).trans l11).trans l8).trans l9)
    refine G.sub (lessL (charL A) x.2.1 + (equalL (charL A) x.2.1 : Int)) (lessL (charL A) x.1 + (equalL (charL A) x.1 : Int)) x.2.2 (by kernel_rfl) c5' (by omega) (by omega) ?_
    refine G.addr b7 o7 res.length cm (j + 1) 1 (by kernel_rfl) hlt ?_
    refine G.loadU none b7 (o7 + (j + 1) * 1) (muV x) (by kernel_rfl) (by kernel_rfl) (e7.mono hle9) ?_
    refine G.neqF x.2.2 x.2.2 (by kernel_rfl) (by simp) ?_
    refine G.addr b7 o7 res.length cm (j + 1) 1 (by kernel_rfl) hlt ?_
    refine G.loadU none b7 (o7 + (j + 1) * 1) (muV x) (by kernel_rfl) (by kernel_rfl) (e7.mono hle9) ?_
    refine G.lssF x.2.2 1 (by kernel_rfl) (by omega) ?_
    refine G.addr b7 o7 res.length cm (j + 1) 1 (by kernel_rfl) hlt ?_
    refine G.loadU none b7 (o7 + (j + 1) * 1) (muV x) (by kernel_rfl) (by kernel_rfl) (e7.mono hle9) ?_
    refine G.add s x.2.2 (s + x.2.2) (by kernel_rfl) rfl (by omega) (by omega) ?_
    refine G.add (((j + 1) : Nat) : Int) 1 (((j + 1) + 1 : Nat) : Int) (by kernel_rfl) (by omega) (by omega) (by omega) ?_
    refine G.back (by kernel_rfl) (hJ ((j + 1) + 1, s + x.2.2, some x.2.1) _ _ _ ⟨by kernel_rfl, by kernel_rfl, by kernel_rfl⟩ (l2.trans hle9) ⟨by dsimp only; omega, by dsimp only; omega, by dsimp only; omega, ?_, hgo, rfl⟩ (by dsimp only; omega))
    intro j' y' hj' hy'
    dsimp only at hj' ⊢
    obtain rfl : j' = (j + 1) := by omega
    rw [hti] at hy'
    rw [Option.some.inj hy']
  ·cases hgo
 ·obtain rfl : i = res.length := by omega
  refine G.lssF (res.length : Int) (res.length : Int) (by kernel_rfl) (by omega) ?_
  rw [List.drop_of_length_le (Nat.le_refl _), chkGo, Option.some.injEq] at hgo
  subst hgo
  refine G.eqlT (A.length : Int) (A.length : Int) (by kernel_rfl) rfl ?_
  exact G.ret (.bool true) (by kernel_rfl) ⟨rfl, rfl⟩
theorem check0 {u : PH} {v r : Value} {A : List (List Rat)} {T : Nat} {res : List (Rat × Rat × Int)} (ht : TabU u) (hm : MatP u v (matT A)) (hA : Nice A T) (htx : ∀ q ∈ charL A, Tx q) (hST : cb T A.length + 13 ≤ 500000)
  (hX : ∀ x ∈ res, NiceX x.1 A.length 12 ∧ NiceX x.2.1 A.length 12) (hr : SpecP u r res) (hl : res.length ≤ 100000) (hc : chkGo (charL A) none res 0 = some (A.length : Int)) :
  Fn0 Tryz.prog 25 [v, r] u fun v' _ => v' = .bool true :=
 checkG ht hm hA htx id hST hX hr hl hc
end Go.Proofs.YtldokelpolbnnaaGreatDoor
end
