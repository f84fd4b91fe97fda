/- Joined out of parts of one proof by a program: contracts of the functions that the statement reaches, and the plain facts behind them. -/
import Derived.Test.YtldokelpolbnnaaGreatDoorJE10
set_option linter.unusedVariables false
set_option linter.unusedSimpArgs false
set_option linter.unusedSectionVars false
section
set_option linter.unusedSectionVars false
set_option linter.unusedVariables false
namespace Go.Proofs.YtldokelpolbnnaaGreatDoor
open Go.RowKit
def zQ : Value := .agg #[.bool false, .slice none 0 0, .bool false, .slice none 0 0]
theorem qv_ok (f : Q4) : ElsOK 4 [qv f] := by
 intro x hx
 simp at hx; subst hx
 exact ⟨rfl, fun y hy => by simp [qv, Value.cells] at hy; rcases hy with rfl | rfl | rfl | rfl <;> rfl⟩
def qRow (r : Value × List Value) : Arr := ⟨r.1, 44, 4, r.2⟩
def oQ (v : Value) (rows : List (Value × List Value)) : Arr := ⟨v, 112, 1, rows.map (·.1)⟩
theorem qRow_at {r : Value × List Value} {m0 m : PH} : (qRow r).At m0 m = ArrAt m0 m r.1 44 4 r.2 := rfl
theorem oQ_at {v : Value} {rows : List (Value × List Value)} {m0 m : PH} : (oQ v rows).At m0 m = ArrAt m0 m v 112 1 (rows.map (·.1)) := rfl
def QAt (u : PH) (rows : List (Value × List Value)) (M : List (List Rat)) : Prop := rows.length = M.length ∧ ∀ (i : Nat) (r : Value × List Value), rows[i]? = some r → AtP QP u r.2 (gM M i)
theorem QAt.mono {u u' : PH} {rows : List (Value × List Value)} {M : List (List Rat)} (h : QAt u rows M) (hl : PH.le u u') : QAt u' rows M := ⟨h.1, fun i r hr => (h.2 i r hr).mono (fun _ _ k => k.mono hl)⟩
theorem QAt.set {u : PH} {rows : List (Value × List Value)} {M : List (List Rat)} {i : Nat} {r : Value × List Value} {q : List Rat} (h : QAt u rows M) (hi : i < rows.length) (hr : AtP QP u r.2 q) : QAt u (rows.set i r) (M.set i q) := by
 refine ⟨by simp [h.1], fun j r' hj => ?_⟩
 rw [gM_set (by rw [← h.1]; exact hi)]
 rw [List.getElem?_set] at hj
 by_cases e : i = j
 ·subst e
  rw [if_pos rfl, if_pos hi] at hj
  simp only [Option.some.injEq] at hj
  rw [if_pos rfl, ← hj]; exact hr
 ·rw [if_neg e] at hj ⊢
  exact h.2 j r' hj
theorem QAt.snoc {u : PH} {rows : List (Value × List Value)} {M : List (List Rat)} {r : Value × List Value} {q : List Rat} (h : QAt u rows M) (hr : AtP QP u r.2 q) : QAt u (rows ++ [r]) (M ++ [q]) := by
 refine ⟨by simp [h.1], fun i r' hi => ?_⟩
 rw [gM_snoc]
 by_cases e : i < rows.length
 ·rw [List.getElem?_append_left e] at hi
  rw [if_pos (by rw [← h.1]; exact e)]; exact h.2 i r' hi
 ·rw [List.getElem?_append_right (by omega)] at hi
  have hz : i - rows.length = 0 := by
   rcases Nat.eq_zero_or_pos (i - rows.length) with h0 | h0
   ·exact h0
   ·rw [List.getElem?_eq_none (by simp; omega)] at hi; cases hi
  rw [hz] at hi
  simp at hi; subst hi
  rw [if_neg (by rw [← h.1]; exact e), if_pos (by rw [← h.1]; omega)]; exact hr
theorem take_snoc {α : Type} {l : List α} {k : Nat} (h : k < l.length) : l.take (k + 1) = l.take k ++ [l[k]] := by
 rw [List.take_add_one, List.getElem?_eq_getElem h]; rfl
set_option maxHeartbeats 4000000 in
theorem refReadM0 {u : PH} {v : Value} {A : List (List Rat)} (h : MatP u v (matT A)) (hs : Sq A) :
  Contract Tryz.prog 71 [v] u PH.mt fun v' u' m' => ∃ a c rows, v' = .slice a A.length c ∧ QAt u' rows A ∧ Bag m' (oQ (.slice a A.length c) rows :: rows.map qRow) := by
 obtain ⟨a0, c0, rfl⟩ := h.opn
 rw [matT_length] at h ⊢
 have hle := hs.le
 refine Contract.of Tryz.func71 (by kernel_rfl) (by kernel_rfl) ?_
 refine G.loop (ι := Nat × (Option Addr × Nat) × List (Value × List Value)) (fun i => [(0, .v (.slice a0 A.length c0)), (3, .v (.slice i.2.1.1 i.1 i.2.1.2)), (9, .v (.int .i64 (A.length : Int))), (10, .v (.int .i64 (i.1 : Int)))]) (fun _ => [])
  (fun i u' m' => i.1 ≤ A.length ∧ QAt u' i.2.2 (A.take i.1) ∧ Bag m' (oQ (.slice i.2.1.1 i.1 i.2.1.2) i.2.2 :: i.2.2.map qRow))
  (fun i => A.length - i.1) (0, (none, 0), []) (by kernel_rfl) (fun _ => by kernel_rfl) ⟨by kernel_rfl, by kernel_rfl, by kernel_rfl⟩ ⟨Nat.zero_le _, ⟨rfl, fun j r hj => by simp at hj⟩, PH.mt, ArrAt.nil _ _ _, trivial⟩ ?_
 rintro J ⟨i, ⟨a, c⟩, rows⟩ hJ u1 m1 l1 ⟨hi, hS, hbag⟩
 simp only at hi hS hbag hJ
 have hrl : rows.length = i := by rw [hS.1, List.length_take]; omega
 by_cases hlt : i < A.length
 ·refine G.lssT (i : Int) (A.length : Int) (by kernel_rfl) (by omega) ?_
  obtain ⟨b1, o1, a1, c1, rfl, e1, e2⟩ := (h.mono l1).row (matT_at (List.getElem?_eq_getElem hlt))
  have hil := hs.len hlt
  rw [List.length_map, hil] at e1 e2
  refine G.addr b1 o1 A.length c0 i 1 (by kernel_rfl) hlt ?_
  refine G.loadU none b1 (o1 + i * 1) _ (by kernel_rfl) (by kernel_rfl) e1 ?_
  refine G.loop (ι := Nat × (Option Addr × Nat) × List Value) (fun j => [(0, .v (.slice (some ⟨b1, o1, none⟩) A.length c0)), (3, .v (.slice a i c)), (9, .v (.int .i64 (A.length : Int))), (10, .v (.int .i64 (i : Int))), (5, .v (.slice j.2.1.1 j.1 j.2.1.2)), (16, .v (.slice a1 A.length c1)), (17, .v (.int .i64 (A.length : Int))), (18, .v (.int .i64 (j.1 : Int)))]) (fun _ => [])
   (fun j u' m' => j.1 ≤ A.length ∧ AtP QP u' j.2.2 (A[i].take j.1) ∧ Bag m' (qRow (.slice j.2.1.1 j.1 j.2.1.2, j.2.2) :: oQ (.slice a i c) rows :: rows.map qRow))
   (fun j => A.length - j.1) (0, (none, 0), []) (by kernel_rfl) (fun _ => by kernel_rfl) ⟨by kernel_rfl, by kernel_rfl, by kernel_rfl⟩ ⟨Nat.zero_le _, AtP.nil, m1, ArrAt.nil _ _ _, hbag⟩ ?_
  rintro J2 ⟨j, ⟨aj, cj⟩, es⟩ hJ2 u2 m2 l2 ⟨hj, hAt, hbagj⟩
  simp only at hj hAt hbagj hJ2
  have hel : es.length = j := by rw [hAt.1, List.length_take]; omega
  by_cases hltj : j < A.length
  ·refine G.lssT (j : Int) (A.length : Int) (by kernel_rfl) (by omega) ?_
   have hji : j < A[i].length := by rw [hil]; exact hltj
   obtain ⟨b2, o2, rfl, e3⟩ := ListP.at' (ListP.mono e2 l2) (j := j) (e := .string (mkS (ratT A[i][j]))) (by simp [strsV, List.getElem?_eq_getElem hji])
   refine G.addr b2 o2 A.length c1 j 1 (by kernel_rfl) hltj ?_
   refine G.loadU none b2 (o2 + j * 1) _ (by kernel_rfl) (by kernel_rfl) e3 ?_
   refine G.call0 _ _ (by kernel_rfl) Tryz.call19 (refReadT (hs.tx' hlt hji)) ?_
   intro v4 u4 l4 k4
   obtain ⟨f4, rfl⟩ := k4.opQ
   refine G.buildU 44 4 64 zQ [qv f4] (by kernel_rfl) (qv_ok f4) rfl (by omega) (by simp) (by simp) ?_
   intro g5 u5 l5 e5
   obtain ⟨mm, hx0, hbr⟩ := hbagj
   rw [qRow_at] at hx0
   refine G.append 44 4 64 zQ mm es [qv f4] (.slice aj j cj) g5 0 1 1 (by kernel_rfl) rfl rfl (by omega) hx0 e5 (qv_ok f4) rfl (by omega) (by omega) (by omega) ?_
   intro v6 m6 hx6
   obtain ⟨a6, c6, rfl⟩ := hx6.shape
   have el : (es ++ [qv f4]).length = j + 1 := by simp [hel]
   rw [el] at hx6 ⊢
   refine G.add (j : Int) 1 ((j + 1 : Nat) : Int) (by kernel_rfl) (by omega) (by omega) (by omega) ?_
   refine G.back (by kernel_rfl) (hJ2 (j + 1, (a6, c6), es ++ [qv f4]) _ _ _ ⟨by kernel_rfl, by kernel_rfl, by kernel_rfl⟩ ((l2.trans l4).trans l5) ⟨by dsimp only; omega, ?_, mm, hx6, hbr⟩ (by dsimp only; omega))
   dsimp only
   rw [take_snoc hji]
   exact (hAt.mono (fun _ _ k => k.mono (l4.trans l5))).snoc (k4.mono l5)
  ·obtain rfl : j = A.length := by omega
   refine G.lssF (A.length : Int) (A.length : Int) (by kernel_rfl) (by omega) ?_
   have hA : A[i].take A.length = A[i] := by rw [← hil]; exact List.take_length
   rw [hA] at hAt
   refine G.buildU 112 1 24 (.slice none 0 0) [.slice aj A.length cj] (by kernel_rfl) (slice_ok _ _ _) rfl (by omega) (by simp) (by simp) ?_
   intro g5 u5 l5 e5
   obtain ⟨m0, hx0, hput⟩ := hbagj.focus 1 rfl
   rw [oQ_at] at hx0
   refine G.append 112 1 24 (.slice none 0 0) m0 (rows.map (·.1)) [.slice aj A.length cj] (.slice a i c) g5 0 1 1 (by kernel_rfl) rfl rfl (by omega) hx0 e5 (slice_ok _ _ _) rfl (by omega) (by simp; omega) (by simp; omega) ?_
   intro v6 m6 hx6
   have em : rows.map (·.1) ++ [Value.slice aj A.length cj] = (rows ++ [(Value.slice aj A.length cj, es)]).map (·.1) := by simp
   rw [em] at hx6
   obtain ⟨a6, c6, rfl⟩ := hx6.shape
   have el : ((rows ++ [(Value.slice aj A.length cj, es)]).map (·.1)).length = i + 1 := by simp [hrl]
   rw [el] at hx6 ⊢
   have hbag3 := hput (oQ (.slice a6 (i + 1) c6) (rows ++ [(Value.slice aj A.length cj, es)])) m6 hx6
   have hbag4 := Bag.perm perm_row hbag3
   refine G.add (i : Int) 1 ((i + 1 : Nat) : Int) (by kernel_rfl) (by omega) (by omega) (by omega) ?_
   refine G.back (by kernel_rfl) (hJ (i + 1, (a6, c6), rows ++ [(Value.slice aj A.length cj, es)]) _ _ _ ⟨by kernel_rfl, by kernel_rfl, by kernel_rfl⟩ ((l1.trans l2).trans l5) ⟨by dsimp only; omega, ?_, by simpa using hbag4⟩ (by dsimp only; omega))
   dsimp only
   rw [take_snoc hlt]
   exact (hS.mono (l2.trans l5)).snoc (hAt.mono (fun _ _ k => k.mono l5))
 ·obtain rfl : i = A.length := by omega
  refine G.lssF (A.length : Int) (A.length : Int) (by kernel_rfl) (by omega) ?_
  rw [List.take_length] at hS
  exact G.ret (.slice a A.length c) (by kernel_rfl) ⟨a, c, rows, rfl, hS, hbag⟩
end Go.Proofs.YtldokelpolbnnaaGreatDoor
end
section
set_option linter.unusedSectionVars false
set_option linter.unusedVariables false
namespace Go.Proofs.YtldokelpolbnnaaGreatDoor
def atReg : List KI → Bool
 | .code (.region _ _ _) :: _ => true
 | _ => false
def meet (P : Program) : Nat → List KI × S → List KI × S
 | 0, st => st
 | n + 1, st => cond (atReg st.1) st (match one P st.1 st.2 with | some st' => meet P n st' | none => st)
section rules
variable {P : Program} [Mixed P] {fn : Func} {Post : Spec} {st : List KI × S} {u m : PH}
theorem meet_sound : ∀ (n : Nat) (st : List KI × S), Sym P fn Post (meet P n st).1 (meet P n st).2 u m → Sym P fn Post st.1 st.2 u m
 | 0, st, h => h
 | n + 1, st, h => by
  unfold meet at h
  cases hn : atReg st.1 with
  | true => simp [hn] at h; exact h
  | false =>
   simp only [hn, cond_false] at h
   split at h
   ·rename_i st' he
    obtain ⟨ks', s'⟩ := st'
    exact one_sound Mixed.mx he (meet_sound n _ h)
   ·exact h
theorem G.canon (T : List (Nat × SV)) (B : List (Nat × Blk)) (h : noReg (meet P 200 st).1 = true) (hl : liveB T B = true) (h0 : Cov (meet P 200 st).2.n (meet P 200 st).2 T B) (k : G P fn Post ((meet P 200 st).1, S.of (meet P 200 st).2.n T B) u m) : G P fn Post st u m := by
 refine ⟨meet_sound 200 st ?_⟩
 have hk := k.out
 rw [Sym.ofNo h] at hk ⊢
 intro c ρ a w hm0 hr
 exact hk c ρ a w hm0 (hr.cov h0 hl)
theorem G.join {ι : Type} (b : Value) (T : ι → List (Nat × SV)) (B : ι → List (Nat × Blk)) (Inv : ι → PH → PH → Prop) (hl : ∀ i, liveB (T i) (B i) = true) (hn : noReg (meet P 200 (nx (adv P st) b)).1 = true)
  (tail : ∀ i u' m', PH.le u u' → Inv i u' m' → G P fn Post ((meet P 200 (nx (adv P st) b)).1, S.of (meet P 200 (nx (adv P st) b)).2.n (T i) (B i)) u' m')
  (k : (∀ i st' u' m', (meet P 200 st').1 = (meet P 200 (nx (adv P st) b)).1 → Cov (meet P 200 (nx (adv P st) b)).2.n (meet P 200 st').2 (T i) (B i) → PH.le u u' → Inv i u' m' → G P fn Post st' u' m') → G P fn Post st u m) : G P fn Post st u m := by
 refine k fun i st' u' m' h1 h2 h3 h4 => ?_
 have hc : Cov (meet P 200 st').2.n (meet P 200 st').2 (T i) (B i) := ⟨rfl, h2.t, h2.b⟩
 refine G.canon (T i) (B i) (by rw [h1]; exact hn) (hl i) hc ?_
 rw [h1, h2.n]
 exact tail i u' m' h3 h4
end rules
end Go.Proofs.YtldokelpolbnnaaGreatDoor
end
section
set_option linter.unusedSectionVars false
set_option linter.unusedVariables false
namespace Go.Proofs.YtldokelpolbnnaaGreatDoor
open Go.RowKit
def pArr (v : Value) (P : List Nat) : Arr := ⟨v, 3, 1, intsV P⟩
theorem pArr_at {v : Value} {P : List Nat} {m0 m : PH} : (pArr v P).At m0 m = ArrAt m0 m v 3 1 (intsV P) := rfl
theorem get_qrow {s o : Arr} {rows : List (Value × List Value)} {i : Nat} {r : Value × List Value} (h : rows[i]? = some r) : (s :: o :: rows.map qRow)[i + 2]? = some (qRow r) := by simp [h]
theorem set_qrow {s o : Arr} {rows : List (Value × List Value)} {i : Nat} {r : Value × List Value} : (s :: o :: rows.map qRow).set (i + 2) (qRow r) = s :: o :: (rows.set i r).map qRow := by
 rw [List.set_cons_succ, List.set_cons_succ, List.map_set]
theorem oQ_set {v : Value} {rows : List (Value × List Value)} {i : Nat} {x : Value} {es es' : List Value} (h : rows[i]? = some (x, es)) : oQ v (rows.set i (x, es')) = oQ v rows := by
 unfold oQ; rw [map_fst_set (r' := (x, es')) h rfl]
theorem rowQ {u m : PH} {pa : Arr} {g n c w i : Nat} {rows : List (Value × List Value)} {X : List (List Rat)} (hbag : Bag m (pa :: oQ (.slice (some ⟨g, 0, none⟩) n c) rows :: rows.map qRow)) (hQ : QAt u rows X) (hX : Rec n w X) (hi : i < n) (hw : 0 < w) :
  ∃ gi ci ei, rows[i]? = some (.slice (some ⟨gi, 0, none⟩) w ci, ei) ∧ ei.length = w ∧ AtP QP u ei (gM X i) ∧ ElP m g (0 + i * 1) (.slice (some ⟨gi, 0, none⟩) w ci) ∧ ∀ j, j < w → ∃ f, ei[j]? = some (qv f) ∧ QP u (qv f) (gR (gM X i) j) ∧ ElP m gi (0 + j * 4) (qv f) := by
 have hrl : rows.length = n := by rw [hQ.1, hX.1]
 have hri : rows[i]? = some rows[i] := List.getElem?_eq_getElem (by omega)
 have hAt := hQ.2 i _ hri
 obtain ⟨⟨vi, ei⟩, he⟩ : ∃ x, rows[i] = x := ⟨_, rfl⟩
 rw [he] at hri hAt
 simp only at hAt
 have hel : ei.length = w := by rw [hAt.1, hX.2 i hi]
 obtain ⟨gi, ci, e⟩ := hbag.ptr (i + 2) (get_qrow hri) (by intro e; simp only [qRow] at e; rw [e] at hel; simp at hel; omega)
 simp only [qRow] at e
 rw [hel] at e
 subst e
 refine ⟨gi, ci, ei, hri, hel, hAt, hbag.el 1 (x := oQ _ rows) rfl rfl (by show (rows.map (·.1))[i]? = _; rw [List.getElem?_map, hri]; rfl), fun j hj => ?_⟩
 have hjl : j < (gM X i).length := by rw [hX.2 i hi]; exact hj
 obtain ⟨e, e1, e2⟩ := hAt.at hjl
 obtain ⟨f, rfl⟩ := e2.opQ
 rw [← gR_at hjl] at e2
 exact ⟨f, e1, e2, hbag.el (i + 2) (x := qRow _) (get_qrow hri) rfl e1⟩
def es (s : Nat) : Nat → Nat
 | 0 => s
 | k + 1 => 4 * es s k + 2
theorem es_le (s : Nat) {k l : Nat} (h : k ≤ l) : es s k ≤ es s l := by
  induction l with
  | zero => have : k = 0 := by omega
            subst this; exact Nat.le_refl _
  | succ l ih =>
    rcases Nat.lt_or_ge k (l + 1) with h' | h'
    · have := ih (by omega)
      show es s k ≤ 4 * es s l + 2
      omega
    · have : k = l + 1 := by omega
      subst this; exact Nat.le_refl _
theorem es_one {s : Nat} (h : 1 ≤ s) (k : Nat) : 1 ≤ es s k := Nat.le_trans h (es_le s (Nat.zero_le k))
theorem SzM.at {X : List (List Rat)} {n w s i j : Nat} (h : SzM X s) (hX : Rec n w X) (hi : i < n) (hj : j < w) : Sz (gR (gM X i) j) s := h i j (by rw [hX.1]; exact hi) (by rw [hX.2 i hi]; exact hj)
theorem szM_of {X : List (List Rat)} {n w s : Nat} (hX : Rec n w X) (h : ∀ i j, i < n → j < w → Sz (gR (gM X i) j) s) : SzM X s := fun i j hi hj => by
 rw [hX.1] at hi
 rw [hX.2 i hi] at hj
 exact h i j hi hj
theorem num0 {q : Rat} : decide (q.num = 0) = decide (q = 0) := decide_eq_decide.2 Rat.num_eq_zero
def mixR (Y R : List Rat) (k : Nat) : List Rat := Y.take k ++ R.drop k
theorem mixR_zero (Y R : List Rat) : mixR Y R 0 = R := by simp [mixR]
theorem mixR_all {Y R : List Rat} {k : Nat} (h : Y.length = k) (h2 : R.length = k) : mixR Y R k = Y := by
 unfold mixR; rw [List.take_of_length_le (by omega), List.drop_of_length_le (by omega), List.append_nil]
theorem mixR_len {Y R : List Rat} {k : Nat} (h : Y.length = R.length) (hk : k ≤ R.length) : (mixR Y R k).length = R.length := by simp [mixR]; omega
theorem mixR_set {Y R : List Rat} {k : Nat} (h : Y.length = R.length) (hk : k < R.length) : (mixR Y R k).set k (gR Y k) = mixR Y R (k + 1) := by
 unfold mixR
 rw [List.set_append_right _ _ (by simp; omega)]
 simp only [List.length_take]
 rw [show k - min k Y.length = 0 by omega, List.drop_eq_getElem_cons hk, List.set_cons_zero, take_snoc (by omega), List.append_assoc, gR_at (by omega)]; rfl
theorem mixR_at {Y R : List Rat} {k : Nat} (h : Y.length = R.length) (hk : k < R.length) : gR (mixR Y R k) k = gR R k := by
 unfold mixR gR
 rw [List.getD_eq_getElem?_getD, List.getElem?_append_right (by simp; omega), List.getD_eq_getElem?_getD]
 simp only [List.length_take]
 rw [show k - min k Y.length = 0 by omega, List.getElem?_drop]; rfl
end Go.Proofs.YtldokelpolbnnaaGreatDoor
end
section
set_option linter.unusedSectionVars false
set_option linter.unusedVariables false
namespace Go.Proofs.YtldokelpolbnnaaGreatDoor
open Go.RowKit
structure ES where
 c : Nat
 P : List Nat
 pa : Option Addr
 pc : Nat
 rows : List (Value × List Value)
 X : List (List Rat)
 f : Q4
 d : Rat
structure E2 where
 rows : List (Value × List Value)
 X : List (List Rat)
 f : Q4
 d : Rat
theorem swap_facts {n w p r E : Nat} {X : List (List Rat)} (h : Rec n w X) (hp : p < n) (hr : r < n) (hs : SzM X E) : Rec n w (if p = r then X else swapL X p r) ∧ SzM (if p = r then X else swapL X p r) E ∧ ∀ j, gR (gM (if p = r then X else swapL X p r) r) j = gR (gM X p) j := by
 by_cases e : p = r
 ·rw [if_pos e]
  exact ⟨h, hs, fun j => by rw [e]⟩
 ·rw [if_neg e]
  refine ⟨rec_swap h hp hr, szM_of (rec_swap h hp hr) (fun i j hi hj => ?_), fun j => ?_⟩
  ·show Sz (en (swapL X p r) i j) E
   rw [en_swap h hp hr]
   split
   ·exact hs.at h hp hj
   ·split
    ·exact hs.at h hr hj
    ·exact hs.at h hi hj
  ·show en (swapL X p r) r j = _
   rw [en_swap h hp hr, if_pos rfl]; rfl
theorem set_same {α : Type} {l : List α} {i : Nat} {x : α} (h : l[i]? = some x) : l.set i x = l := by
 obtain ⟨h1, h2⟩ := List.getElem?_eq_some_iff.1 h
 rw [← h2]; exact List.set_getElem_self h1
theorem divR_len (F : Rat) (R : List Rat) : (divR F R).length = R.length := by simp [divR]
theorem subR_len (g : Rat) (R S : List Rat) : (subR g R S).length = S.length := by simp [subR]
set_option maxHeartbeats 16000000 in
theorem refElim0 {u m : PH} {a : Option Addr} {co : Nat} {rows0 : List (Value × List Value)} {X0 : List (List Rat)} {n w cols s : Nat} (hX0 : Rec n w X0) (hn : n ≤ 100) (hw : w ≤ 100) (hcw : cols ≤ w) (hsz0 : SzM X0 s) (hs : 1 ≤ s) (hes : es s cols ≤ 1000000000)
  (hQ0 : QAt u rows0 X0) (hbag0 : Bag m (oQ (.slice a n co) rows0 :: rows0.map qRow)) :
  Contract Tryz.prog 73 [.slice a n co, .int .i64 (cols : Int)] u m fun v u' m' => ∃ pa pc f rows', v = .tuple #[.slice pa (elimGo cols 0 [] X0 1).1.length pc, qv f] ∧ QP u' (qv f) (elimGo cols 0 [] X0 1).2.2 ∧ QAt u' rows' (elimGo cols 0 [] X0 1).2.1 ∧
   Bag m' (pArr (.slice pa (elimGo cols 0 [] X0 1).1.length pc) (elimGo cols 0 [] X0 1).1 :: oQ (.slice a n co) rows' :: rows'.map qRow) := by
 refine Contract.of Tryz.func73 (by kernel_rfl) (by kernel_rfl) ?_
 refine G.call0 _ _ (by kernel_rfl) Tryz.call17 (refOf0 (z := 1) (by omega) (by omega)) ?_
 intro v1 u1 l1 k1
 rw [show ((1 : Int) : Rat) = 1 from by decide] at k1
 obtain ⟨f1, rfl⟩ := k1.opQ
 refine G.loop (ι := ES) (fun i => [(0, .v (.slice a n co)), (1, .v (.int .i64 (cols : Int))), (5, .p 1 0), (6, .v (.slice i.pa i.P.length i.pc)), (7, .p 2001 0), (8, .v (.int .i64 (i.c : Int)))]) (fun i => [(1, ⟨44, [.v (.bool false), .v (.slice none 0 0), .v (.bool false), .v (.slice none 0 0)]⟩), (2001, ⟨44, qc i.f⟩)])
  (fun i u' m' => i.c ≤ cols ∧ i.P.length ≤ i.c ∧ elimGo (cols - i.c) i.c i.P i.X i.d = elimGo cols 0 [] X0 1 ∧ Rec n w i.X ∧ SzM i.X (es s i.c) ∧ Sz i.d (es s i.c) ∧ QP u' (qv i.f) i.d ∧ QAt u' i.rows i.X ∧ Bag m' (pArr (.slice i.pa i.P.length i.pc) i.P :: oQ (.slice a n co) i.rows :: i.rows.map qRow))
  (fun i => cols - i.c) ⟨0, [], none, 0, rows0, X0, f1, 1⟩ (by kernel_rfl) (fun _ => by kernel_rfl) ⟨by kernel_rfl, by kernel_rfl, by kernel_rfl⟩ ⟨Nat.zero_le _, Nat.le_refl _, rfl, hX0, hsz0, (sz_one (z := 1) (by decide)).mono hs, k1, hQ0.mono l1, m, ArrAt.nil _ _ _, hbag0⟩ ?_
 rintro J ⟨c, P, pa, pc, rows, X, f, d⟩ hJ u2 m2 l2 ⟨hc, hPc, hgo, hX, hsz, hsd, hf, hQ, hbag⟩
 simp only at hc hPc hgo hX hsz hsd hf hQ hbag hJ
 clear hbag0 hQ0 hsz0 k1
 have hfin : elimGo (cols - c) c P X d = (P, X, d) → ∃ pa' pc' f' rows', (Value.tuple #[.slice pa P.length pc, qv f]) = .tuple #[.slice pa' (elimGo cols 0 [] X0 1).1.length pc', qv f'] ∧ QP u2 (qv f') (elimGo cols 0 [] X0 1).2.2 ∧ QAt u2 rows' (elimGo cols 0 [] X0 1).2.1 ∧ Bag m2 (pArr (.slice pa' (elimGo cols 0 [] X0 1).1.length pc') (elimGo cols 0 [] X0 1).1 :: oQ (.slice a n co) rows' :: rows'.map qRow) := by
  intro e
  rw [e] at hgo
  rw [← hgo]
  exact ⟨pa, pc, f, rows, rfl, hf, hQ, hbag⟩
 by_cases hlt : cols ≤ c
 ·refine G.lssF (c : Int) (cols : Int) (by kernel_rfl) (by omega) ?_
  exact G.ret (.tuple #[.slice pa P.length pc, qv f]) (by kernel_rfl) (hfin (by rw [show cols - c = 0 by omega]; rfl))
 have hlt : c < cols := by omega
 refine G.lssT (c : Int) (cols : Int) (by kernel_rfl) (by omega) ?_
 obtain ⟨K, hK⟩ : ∃ K, cols - c = K + 1 := ⟨cols - c - 1, by omega⟩
 by_cases hP : n ≤ P.length
 ·refine G.lssF (P.length : Int) (n : Int) (by kernel_rfl) (by omega) ?_
  exact G.ret (.tuple #[.slice pa P.length pc, qv f]) (by kernel_rfl) (hfin (by rw [hK, elimGo, if_neg (by rw [hX.1]; omega)]))
 clear hfin
 have hP : P.length < n := by omega
 refine G.lssT (P.length : Int) (n : Int) (by kernel_rfl) (by omega) ?_
 have hw0 : 0 < w := by omega
 have hrl : rows.length = n := by rw [hQ.1, hX.1]
 obtain ⟨go, co', eo⟩ := hbag.ptr 1 rfl (by intro e; simp only [oQ, List.map_eq_nil_iff] at e; rw [e] at hrl; simp at hrl; omega)
 simp only [oQ, List.length_map, hrl, Value.slice.injEq, true_and] at eo
 obtain ⟨rfl, rfl⟩ := eo
 have hec := es_one hs c
 have hes1 : 4 * es s c + 2 ≤ 1000000000 := Nat.le_trans (es_le s (show c + 1 ≤ cols by omega)) hes
 obtain ⟨E, hE⟩ : ∃ E, E = es s c := ⟨_, rfl⟩
 have hE1 : es s (c + 1) = 4 * E + 2 := by rw [hE]; rfl
 rw [← hE] at hsz hsd hec hes1
 refine G.loop (ι := Nat) (fun p => [(0, .v (.slice (some ⟨go, 0, none⟩) n co)), (1, .v (.int .i64 (cols : Int))), (5, .p 1 0), (6, .v (.slice pa P.length pc)), (7, .p 2001 0), (8, .v (.int .i64 (c : Int))), (9, .v (.int .i64 (P.length : Int))), (10, .v (.int .i64 (p : Int)))]) (fun _ => [(1, ⟨44, [.v (.bool false), .v (.slice none 0 0), .v (.bool false), .v (.slice none 0 0)]⟩), (2001, ⟨44, qc f⟩)])
  (fun p u' m' => P.length ≤ p ∧ p ≤ n ∧ pivGo X c (n - p) p = pivGo X c (n - P.length) P.length ∧ m' = m2) (fun p => n - p) P.length (by kernel_rfl) (fun _ => by kernel_rfl) ⟨by kernel_rfl, by kernel_rfl, by kernel_rfl⟩ ⟨Nat.le_refl _, by omega, rfl, rfl⟩ ?_
 rintro J2 p hJ2 u3 m3 l3 ⟨hp1, hp2, hpv, rfl⟩
 have hQ3 := hQ.mono l3
 have hf3 := hf.mono l3
 by_cases hpn : n ≤ p
 ·obtain rfl : p = n := by omega
  refine G.lssF (p : Int) (p : Int) (by kernel_rfl) (by omega) ?_
  refine G.eqlT (p : Int) (p : Int) (by kernel_rfl) rfl ?_
  refine G.add (c : Int) 1 ((c + 1 : Nat) : Int) (by kernel_rfl) (by omega) (by omega) (by omega) ?_
  refine G.back (by kernel_rfl) (hJ ⟨c + 1, P, pa, pc, rows, X, f, d⟩ _ _ _ ⟨by kernel_rfl, by kernel_rfl, by kernel_rfl⟩ (l2.trans l3) ⟨by dsimp only; omega, by dsimp only; omega, ?_, hX, hsz.mono (by dsimp only; omega), hsd.mono (by dsimp only; omega), hf3, hQ3, hbag⟩ (by dsimp only; omega))
  dsimp only
  rw [← hgo, hK, elimGo, if_pos (by rw [hX.1]; exact hP), hX.1, ← hpv, if_pos (by rw [Nat.sub_self]; rfl), show cols - (c + 1) = K by omega]
 have hpn : p < n := by omega
 refine G.lssT (p : Int) (n : Int) (by kernel_rfl) (by omega) ?_
 obtain ⟨K2, hK2⟩ : ∃ K2, n - p = K2 + 1 := ⟨n - p - 1, by omega⟩
 obtain ⟨gp, cp, ep, hrp, hpl, hAp, hop, hcp⟩ := rowQ hbag hQ3 hX hpn hw0
 obtain ⟨fp, hp5, hp6, hp7⟩ := hcp c (by omega)
 have hszp := hsz.at hX hpn (show c < w by omega)
 refine G.addr go 0 n co p 1 (by kernel_rfl) hpn ?_
 refine G.loadM none go (0 + p * 1) _ (by kernel_rfl) (by kernel_rfl) hop ?_
 refine G.addr gp 0 w cp c 4 (by kernel_rfl) (by omega) ?_
 refine G.loadM (some 4) gp (0 + c * 4) (qv fp) (by kernel_rfl) (by kernel_rfl) hp7 ?_
 refine G.call0 _ _ (by kernel_rfl) Tryz.call21 (refZero0 hp6 (Nat.le_trans hszp.1 (by omega))) ?_
 rintro v4 u4 l4 rfl
 rw [num0]
 by_cases hz : gR (gM X p) c = 0
 ·rw [decide_eq_true hz]
  refine G.add (p : Int) 1 ((p + 1 : Nat) : Int) (by kernel_rfl) (by omega) (by omega) (by omega) ?_
  refine G.back (by kernel_rfl) (hJ2 (p + 1) _ _ _ ⟨by kernel_rfl, by kernel_rfl, by kernel_rfl⟩ (l3.trans l4) ⟨by omega, by omega, ?_, rfl⟩ (by omega))
  rw [← hpv, hK2, pivGo, if_pos hz, show n - (p + 1) = K2 by omega]
 rw [decide_eq_false hz]
 rw [hK2, pivGo, if_neg hz] at hpv
 clear hJ2
 refine G.eqlF (p : Int) (n : Int) (by kernel_rfl) (by omega) ?_
 refine G.join (ι := E2) (.bool false) (fun i => [(0, .v (.slice (some ⟨go, 0, none⟩) n co)), (1, .v (.int .i64 (cols : Int))), (5, .p 1 0), (6, .v (.slice pa P.length pc)), (7, .p 2001 0), (8, .v (.int .i64 (c : Int))), (9, .v (.int .i64 (P.length : Int)))]) (fun i => [(1, ⟨44, [.v (.bool false), .v (.slice none 0 0), .v (.bool false), .v (.slice none 0 0)]⟩), (2001, ⟨44, qc i.f⟩)])
  (fun i u' m' => i.X = (if p = P.length then X else swapL X p P.length) ∧ i.d = (if p = P.length then d else 0 - d) ∧ QAt u' i.rows i.X ∧ QP u' (qv i.f) i.d ∧ Bag m' (pArr (.slice pa P.length pc) P :: oQ (.slice (some ⟨go, 0, none⟩) n co) i.rows :: i.rows.map qRow)) (fun _ => by kernel_rfl) (by kernel_rfl) ?tail ?way
 case way =>
  intro hjoin
  by_cases hpr : p = P.length
  ·refine G.neqF (p : Int) (P.length : Int) (by kernel_rfl) (by omega) ?_
   exact hjoin ⟨rows, X, f, d⟩ _ _ _ (by kernel_rfl) ⟨by kernel_rfl, by kernel_rfl, by kernel_rfl⟩ (PH.le_refl _) ⟨by rw [if_pos hpr], by rw [if_pos hpr], hQ3.mono l4, hf3.mono l4, hbag⟩
  ·refine G.neqT (p : Int) (P.length : Int) (by kernel_rfl) (by omega) ?_
   obtain ⟨gr, cr, er, hrr, hrl2, hAr, hor, hcr⟩ := rowQ hbag hQ3 hX hP hw0
   refine G.addr go 0 n co P.length 1 (by kernel_rfl) hP ?_
   refine G.loadM none go (0 + P.length * 1) _ (by kernel_rfl) (by kernel_rfl) hor ?_
   refine G.addr go 0 n co p 1 (by kernel_rfl) hpn ?_
   refine G.loadM none go (0 + p * 1) _ (by kernel_rfl) (by kernel_rfl) hop ?_
   obtain ⟨m0, hx0, hput⟩ := hbag.focus 1 rfl
   rw [oQ_at] at hx0
   refine G.addr go 0 n co p 1 (by kernel_rfl) hpn ?_
   refine G.storeA 1 m0 _ go n co p (.slice (some ⟨gr, 0, none⟩) w cr) (by kernel_rfl) hx0 (by simp; omega) rfl rfl ?_
   intro m5 hx5
   refine G.addr go 0 n co P.length 1 (by kernel_rfl) hP ?_
   refine G.storeA 1 m0 _ go n co P.length (.slice (some ⟨gp, 0, none⟩) w cp) (by kernel_rfl) hx5 (by simp; omega) rfl rfl ?_
   intro m6 hx6
   have hrows : ((rows.map (·.1)).set p (Value.slice (some ⟨gr, 0, none⟩) w cr)).set P.length (Value.slice (some ⟨gp, 0, none⟩) w cp) = ((rows.set p (Value.slice (some ⟨gr, 0, none⟩) w cr, er)).set P.length (Value.slice (some ⟨gp, 0, none⟩) w cp, ep)).map (·.1) := by rw [List.map_set, List.map_set]
   rw [hrows] at hx6
   have hb6 := hput (oQ (.slice (some ⟨go, 0, none⟩) n co) ((rows.set p (Value.slice (some ⟨gr, 0, none⟩) w cr, er)).set P.length (Value.slice (some ⟨gp, 0, none⟩) w cp, ep))) m6 hx6
   have hperm : ((rows.set p (Value.slice (some ⟨gr, 0, none⟩) w cr, er)).set P.length (Value.slice (some ⟨gp, 0, none⟩) w cp, ep)).Perm rows := by
    obtain ⟨q1, q2⟩ := List.getElem?_eq_some_iff.1 hrp
    obtain ⟨q3, q4⟩ := List.getElem?_eq_some_iff.1 hrr
    rw [← q2, ← q4]
    exact List.set_set_perm q1 q3
   have hb7 := Bag.perm (List.Perm.cons _ (List.Perm.cons _ (hperm.symm.map qRow))) hb6
   have hQ1 := (hQ3.set (i := p) (r := (Value.slice (some ⟨gr, 0, none⟩) w cr, er)) (by omega) hAr).set (i := P.length) (r := (Value.slice (some ⟨gp, 0, none⟩) w cp, ep)) (by simp; omega) hAp
   refine G.call0 _ _ (by kernel_rfl) Tryz.call17 (refOf0 (z := 0) (by omega) (by omega)) ?_
   intro v8 u8 l8 k8
   rw [show ((0 : Int) : Rat) = 0 from by decide] at k8
   obtain ⟨f8, rfl⟩ := k8.opQ
   refine G.call0 _ _ (by kernel_rfl) Tryz.call28 (refSub0 k8 (hf3.mono (l4.trans l8)) (sz_zero.mono (by omega)) (hsd.mono (by omega))) ?_
   intro v9 u9 l9 k9
   obtain ⟨f9, rfl⟩ := k9.opQ
   exact hjoin ⟨(rows.set p (Value.slice (some ⟨gr, 0, none⟩) w cr, er)).set P.length (Value.slice (some ⟨gp, 0, none⟩) w cp, ep), swapL X p P.length, f9, 0 - d⟩ _ _ _ (by kernel_rfl) ⟨by kernel_rfl, by kernel_rfl, by kernel_rfl⟩ (l8.trans l9) ⟨by rw [if_neg hpr], by rw [if_neg hpr], hQ1.mono (l4.trans (l8.trans l9)), k9, hb7⟩
 rintro ⟨rows1, X1, f1', d1⟩ u5 m5 l5 ⟨hX1e, hd1e, hQ1, hf1, hbag1⟩
 simp only at hX1e hd1e hQ1 hf1 hbag1
 obtain ⟨hX1, hsz1, hX1r⟩ := swap_facts hX hpn hP hsz
 have hsd1 : Sz (if p = P.length then d else 0 - d) (E + 2) := by
  split
  ·exact hsd.mono (by omega)
  ·exact (sz_sub2 sz_zero hsd).mono (by omega)
 have hstep : elimGo (cols - c) c P X d = elimGo (cols - (c + 1)) (c + 1) (P ++ [c]) (clrGo P.length c n 0 (normX X1 P.length c)) (d1 * gR (gM X1 P.length) c) := by
  rw [hK, elimGo, if_pos (by rw [hX.1]; exact hP), hX.1, ← hpv, if_neg (by omega), show cols - (c + 1) = K by omega, hX1e, hd1e, hX1r]
  unfold stepX
  rw [hX.1]
 rw [← hX1e] at hX1 hsz1 hX1r
 rw [← hd1e] at hsd1
 rw [hstep] at hgo
 have hFne : gR (gM X1 P.length) c ≠ 0 := by rw [hX1r]; exact hz
 clear hstep hX1e hd1e hX1r hbag hQ hQ3 hf3 hf hsz hsd hpv hrp hpl hAp hop hcp hp5 hp6 hp7 hszp hz hK2
 have hr1 : rows1.length = n := by rw [hQ1.1, hX1.1]
 obtain ⟨gr, cr, er, hrr, hrl2, hAr, hor, hcr⟩ := rowQ hbag1 hQ1 hX1 hP hw0
 obtain ⟨fr, h5, h6, h7⟩ := hcr c (by omega)
 obtain ⟨R, hR⟩ : ∃ R, R = gM X1 P.length := ⟨_, rfl⟩
 have hRl : R.length = w := by rw [hR]; exact hX1.2 _ hP
 have hRz : ∀ j, j < w → Sz (gR R j) E := fun j hj => by rw [hR]; exact hsz1.at hX1 hP hj
 rw [← hR] at h6 hAr hgo
 obtain ⟨F, hF⟩ : ∃ F, F = gR R c := ⟨_, rfl⟩
 have hFz : Sz F E := by rw [hF]; exact hRz c (by omega)
 rw [← hF] at h6 hgo
 rw [← hR, ← hF] at hFne
 refine G.addr go 0 n co P.length 1 (by kernel_rfl) hP ?_
 refine G.loadM none go (0 + P.length * 1) _ (by kernel_rfl) (by kernel_rfl) hor ?_
 refine G.addr gr 0 w cr c 4 (by kernel_rfl) (by omega) ?_
 refine G.loadM (some 4) gr (0 + c * 4) (qv fr) (by kernel_rfl) (by kernel_rfl) h7 ?_
 refine G.call0 _ _ (by kernel_rfl) Tryz.call18 (refMul0 hf1 h6 (hsd1.mono (by omega)) (hFz.mono (by omega))) ?_
 intro v6 u6 l6 k6
 obtain ⟨f6, rfl⟩ := k6.opQ
 refine G.addr go 0 n co P.length 1 (by kernel_rfl) hP ?_
 refine G.loadM none go (0 + P.length * 1) _ (by kernel_rfl) (by kernel_rfl) hor ?_
 refine G.addr gr 0 w cr c 4 (by kernel_rfl) (by omega) ?_
 refine G.loadM (some 4) gr (0 + c * 4) (qv fr) (by kernel_rfl) (by kernel_rfl) h7 ?_
 refine G.addr go 0 n co P.length 1 (by kernel_rfl) hP ?_
 refine G.loadM none go (0 + P.length * 1) _ (by kernel_rfl) (by kernel_rfl) hor ?_
 have hdl := divR_len F R
 have hF0 : F ≠ 0 := hFne
 refine G.loop (ι := Nat × List Value) (fun i => [(0, .v (.slice (some ⟨go, 0, none⟩) n co)), (1, .v (.int .i64 (cols : Int))), (5, .p 1 0), (6, .v (.slice pa P.length pc)), (7, .p 2001 0), (8, .v (.int .i64 (c : Int))), (9, .v (.int .i64 (P.length : Int))), (11, .p 15007 0), (92, .v (.int .i64 (w : Int))), (93, .v (.int .i64 (i.1 : Int)))]) (fun i => [(1, ⟨44, [.v (.bool false), .v (.slice none 0 0), .v (.bool false), .v (.slice none 0 0)]⟩), (2001, ⟨44, qc f6⟩), (15007, ⟨44, qc fr⟩)])
  (fun i u' m' => i.1 ≤ w ∧ AtP QP u' i.2 (mixR (divR F R) R i.1) ∧ Bag m' (pArr (.slice pa P.length pc) P :: oQ (.slice (some ⟨go, 0, none⟩) n co) rows1 :: (rows1.set P.length ((Value.slice (some ⟨gr, 0, none⟩) w cr), i.2)).map qRow)) (fun i => w - i.1) (0, er) (by kernel_rfl) (fun _ => by kernel_rfl) ⟨by kernel_rfl, by kernel_rfl, by kernel_rfl⟩
  ⟨Nat.zero_le _, by rw [mixR_zero]; exact hAr.mono (fun _ _ k => k.mono l6), by rw [set_same hrr]; exact hbag1⟩ ?_
 rintro J3 ⟨k, es1⟩ hJ3 u7 m7 l7 ⟨hk, hAt, hbk⟩
 simp only at hk hAt hbk hJ3
 have hml := mixR_len (k := k) (hdl.trans rfl) (by omega)
 have hel : es1.length = w := by rw [hAt.1, hml, hRl]
 have hget : (rows1.set P.length ((Value.slice (some ⟨gr, 0, none⟩) w cr), es1))[P.length]? = some ((Value.slice (some ⟨gr, 0, none⟩) w cr), es1) := by rw [List.getElem?_set]; simp [hr1, hP]
 by_cases hkw : k < w
 ·refine G.lssT (k : Int) (w : Int) (by kernel_rfl) (by omega) ?_
  obtain ⟨e, e1, e2⟩ := hAt.at (j := k) (by omega)
  obtain ⟨fe, rfl⟩ := e2.opQ
  rw [← gR_at (by omega), mixR_at hdl (by omega)] at e2
  have ho : ElP m7 go (0 + P.length * 1) (Value.slice (some ⟨gr, 0, none⟩) w cr) := hbk.el 1 (x := oQ (.slice (some ⟨go, 0, none⟩) n co) rows1) rfl rfl (by show (rows1.map (·.1))[P.length]? = _; rw [List.getElem?_map, hrr]; rfl)
  have he : ElP m7 gr (0 + k * 4) (qv fe) := hbk.el (P.length + 2) (x := qRow ((Value.slice (some ⟨gr, 0, none⟩) w cr), es1)) (get_qrow hget) rfl e1
  refine G.addr go 0 n co P.length 1 (by kernel_rfl) hP ?_
  refine G.loadM none go (0 + P.length * 1) _ (by kernel_rfl) (by kernel_rfl) ho ?_
  refine G.addr go 0 n co P.length 1 (by kernel_rfl) hP ?_
  refine G.loadM none go (0 + P.length * 1) _ (by kernel_rfl) (by kernel_rfl) ho ?_
  refine G.addr gr 0 w cr k 4 (by kernel_rfl) hkw ?_
  refine G.loadM (some 4) gr (0 + k * 4) (qv fe) (by kernel_rfl) (by kernel_rfl) he ?_
  refine G.call0 _ _ (by kernel_rfl) Tryz.call114 (refDiv0 e2 (h6.mono (l6.trans l7)) ((hRz k hkw).mono (by omega)) (hFz.mono (by omega)) hF0) ?_
  intro v8 u8 l8 k8
  obtain ⟨f8, rfl⟩ := k8.opQ
  obtain ⟨m0, hx0, hput⟩ := hbk.focus (P.length + 2) (get_qrow hget)
  rw [qRow_at] at hx0
  refine G.addr gr 0 w cr k 4 (by kernel_rfl) hkw ?_
  refine G.storeA 4 m0 es1 gr w cr k (qv f8) (by kernel_rfl) hx0 (by omega) rfl rfl ?_
  intro m9 hx9
  have hb9 := hput (qRow ((Value.slice (some ⟨gr, 0, none⟩) w cr), es1.set k (qv f8))) m9 hx9
  rw [set_qrow, List.set_set] at hb9
  refine G.add (k : Int) 1 ((k + 1 : Nat) : Int) (by kernel_rfl) (by omega) (by omega) (by omega) ?_
  refine G.back (by kernel_rfl) (hJ3 (k + 1, es1.set k (qv f8)) _ _ _ ⟨by kernel_rfl, by kernel_rfl, by kernel_rfl⟩ (l7.trans l8) ⟨by dsimp only; omega, ?_, hb9⟩ (by dsimp only; omega))
  dsimp only
  rw [← mixR_set hdl (by omega), gR_div]
  exact (hAt.mono (fun _ _ k => k.mono l8)).set k k8
 obtain rfl : k = w := by omega
 refine G.lssF (k : Int) (k : Int) (by kernel_rfl) (by omega) ?_
 rw [mixR_all (by omega) hRl] at hAt
 clear hJ3 hml hkw hk h7 hor hcr h5
 have hX2 : Rec n k (X1.set P.length (divR F R)) := rec_set hX1 hP (by omega)
 have hX2e : normX X1 P.length c = X1.set P.length (divR F R) := by unfold normX; rw [← hR, ← hF]
 rw [hX2e] at hgo
 have hQ2 := (hQ1.mono (l6.trans l7)).set (i := P.length) (r := ((Value.slice (some ⟨gr, 0, none⟩) k cr), es1)) (by omega) hAt
 rw [← oQ_set (es' := es1) hrr] at hbk
 have hrow2 : ∀ i, gM (X1.set P.length (divR F R)) i = if P.length = i then divR F R else gM X1 i := fun i => gM_set (by rw [hX1.1]; exact hP)
 generalize rows1.set P.length ((Value.slice (some ⟨gr, 0, none⟩) k cr), es1) = rows2 at *
 obtain ⟨X2, hX2n⟩ : ∃ X2, X2 = X1.set P.length (divR F R) := ⟨_, rfl⟩
 rw [← hX2n] at hX2 hQ2 hgo hrow2
 have hdz : ∀ j, j < k → Sz (gR (divR F R) j) (2 * E) := fun j hj => by rw [gR_div]; exact (sz_div (hRz j hj) hFz hF0).mono (by omega)
 have hsz2 : ∀ i j, i < n → j < k → i ≠ P.length → Sz (gR (gM X2 i) j) E := fun i j hi hj hne => by rw [hrow2, if_neg (fun e => hne e.symm)]; exact hsz1.at hX1 hi hj
 have hrr2 : gM X2 P.length = divR F R := by rw [hrow2, if_pos rfl]
 clear hX2n hX2e hQ1 hbag1 hrow2 hsz1 hX1 hrr hrl2 hAr hAt hget hel hr1
 refine G.loop (ι := Nat × List (Value × List Value) × List (List Rat)) (fun i => [(0, .v (.slice (some ⟨go, 0, none⟩) n co)), (1, .v (.int .i64 (cols : Int))), (5, .p 1 0), (6, .v (.slice pa P.length pc)), (7, .p 2001 0), (8, .v (.int .i64 (c : Int))), (9, .v (.int .i64 (P.length : Int))), (113, .v (.int .i64 (n : Int))), (114, .v (.int .i64 (i.1 : Int)))]) (fun i => [(1, ⟨44, [.v (.bool false), .v (.slice none 0 0), .v (.bool false), .v (.slice none 0 0)]⟩), (2001, ⟨44, qc f6⟩)])
  (fun i u' m' => i.1 ≤ n ∧ clrGo P.length c (n - i.1) i.1 i.2.2 = clrGo P.length c n 0 X2 ∧ Rec n k i.2.2 ∧ gM i.2.2 P.length = divR F R ∧ (∀ x j, i.1 ≤ x → x < n → j < k → x ≠ P.length → Sz (gR (gM i.2.2 x) j) E) ∧ SzM i.2.2 (4 * E + 2) ∧ QAt u' i.2.1 i.2.2 ∧ Bag m' (pArr (.slice pa P.length pc) P :: oQ (.slice (some ⟨go, 0, none⟩) n co) i.2.1 :: i.2.1.map qRow))
  (fun i => n - i.1) (0, rows2, X2) (by kernel_rfl) (fun _ => by kernel_rfl) ⟨by kernel_rfl, by kernel_rfl, by kernel_rfl⟩ ⟨Nat.zero_le _, rfl, hX2, hrr2, fun x j _ hx hj hne => hsz2 x j hx hj hne, szM_of hX2 (fun x j hx hj => ?_), hQ2, hbk⟩ ?_
 ·by_cases e : x = P.length
  ·rw [e, hrr2]; exact (hdz j hj).mono (by omega)
  ·exact (hsz2 x j hx hj e).mono (by omega)
 clear hbk hQ2 hsz2 hrr2 hX2
 rintro J4 ⟨i, rows3, X3⟩ hJ4 u8 m8 l8 ⟨hi, hcl, hX3, hrr3, hszi, hsz3, hQ3, hbag3⟩
 simp only at hi hcl hX3 hrr3 hszi hsz3 hQ3 hbag3 hJ4
 have hr3 : rows3.length = n := by rw [hQ3.1, hX3.1]
 by_cases hin : i < n
 ·refine G.lssT (i : Int) (n : Int) (by kernel_rfl) (by omega) ?_
  obtain ⟨K3, hK3⟩ : ∃ K3, n - i = K3 + 1 := ⟨n - i - 1, by omega⟩
  by_cases hir : i = P.length
  ·refine G.eqlT (i : Int) (P.length : Int) (by kernel_rfl) (by omega) ?_
   refine G.add (i : Int) 1 ((i + 1 : Nat) : Int) (by kernel_rfl) (by omega) (by omega) (by omega) ?_
   refine G.back (by kernel_rfl) (hJ4 (i + 1, rows3, X3) _ _ _ ⟨by kernel_rfl, by kernel_rfl, by kernel_rfl⟩ l8 ⟨by dsimp only; omega, ?_, hX3, hrr3, fun x j h1 => hszi x j (by dsimp only at h1; omega), hsz3, hQ3, hbag3⟩ (by dsimp only; omega))
   dsimp only
   rw [← hcl, hK3, clrGo, if_pos (.inl hir), show n - (i + 1) = K3 by omega]
  refine G.eqlF (i : Int) (P.length : Int) (by kernel_rfl) (by omega) ?_
  obtain ⟨gi, ci, ei, hri, hil, hAi, hoi, hci⟩ := rowQ hbag3 hQ3 hX3 hin hw0
  obtain ⟨fg, g5, g6, g7⟩ := hci c (by omega)
  have hgz := hszi i c (Nat.le_refl _) hin (show c < k by omega) hir
  refine G.addr go 0 n co i 1 (by kernel_rfl) hin ?_
  refine G.loadM none go (0 + i * 1) _ (by kernel_rfl) (by kernel_rfl) hoi ?_
  refine G.addr gi 0 k ci c 4 (by kernel_rfl) (by omega) ?_
  refine G.loadM (some 4) gi (0 + c * 4) (qv fg) (by kernel_rfl) (by kernel_rfl) g7 ?_
  refine G.call0 _ _ (by kernel_rfl) Tryz.call21 (refZero0 g6 (Nat.le_trans hgz.1 (by omega))) ?_
  rintro v9 u9 l9 rfl
  rw [num0]
  by_cases hgz0 : gR (gM X3 i) c = 0
  ·rw [decide_eq_true hgz0]
   refine G.add (i : Int) 1 ((i + 1 : Nat) : Int) (by kernel_rfl) (by omega) (by omega) (by omega) ?_
   refine G.back (by kernel_rfl) (hJ4 (i + 1, rows3, X3) _ _ _ ⟨by kernel_rfl, by kernel_rfl, by kernel_rfl⟩ (l8.trans l9) ⟨by dsimp only; omega, ?_, hX3, hrr3, fun x j h1 => hszi x j (by dsimp only at h1; omega), hsz3, hQ3.mono l9, hbag3⟩ (by dsimp only; omega))
   dsimp only
   rw [← hcl, hK3, clrGo, if_pos (.inr hgz0), show n - (i + 1) = K3 by omega]
  rw [decide_eq_false hgz0]
  obtain ⟨S, hS⟩ : ∃ S, S = gM X3 i := ⟨_, rfl⟩
  have hSl : S.length = k := by rw [hS]; exact hX3.2 i hin
  have hSz : ∀ j, j < k → Sz (gR S j) E := fun j hj => by rw [hS]; exact hszi i j (Nat.le_refl _) hin hj hir
  have hcl2 : clrGo P.length c (n - (i + 1)) (i + 1) (X3.set i (subR (gR S c) (divR F R) S)) = clrGo P.length c n 0 X2 := by
   rw [← hcl, hK3, clrGo, if_neg (by simp [hir, hgz0]), show n - (i + 1) = K3 by omega, hS, hrr3]
  rw [← hS] at g6 hgz hAi
  generalize hg : gR S c = g at *
  have hsl := subR_len g (divR F R) S
  refine G.addr go 0 n co i 1 (by kernel_rfl) hin ?_
  refine G.loadM none go (0 + i * 1) _ (by kernel_rfl) (by kernel_rfl) hoi ?_
  refine G.addr gi 0 k ci c 4 (by kernel_rfl) (by omega) ?_
  refine G.loadM (some 4) gi (0 + c * 4) (qv fg) (by kernel_rfl) (by kernel_rfl) g7 ?_
  refine G.addr go 0 n co i 1 (by kernel_rfl) hin ?_
  refine G.loadM none go (0 + i * 1) _ (by kernel_rfl) (by kernel_rfl) hoi ?_
  obtain ⟨gs, cs, er3, hrs, hsl3, hAs, hos, hcs⟩ := rowQ hbag3 hQ3 hX3 hP hw0
  refine G.loop (ι := Nat × List Value) (fun y => [(0, .v (.slice (some ⟨go, 0, none⟩) n co)), (1, .v (.int .i64 (cols : Int))), (5, .p 1 0), (6, .v (.slice pa P.length pc)), (7, .p 2001 0), (8, .v (.int .i64 (c : Int))), (9, .v (.int .i64 (P.length : Int))), (113, .v (.int .i64 (n : Int))), (114, .v (.int .i64 (i : Int))), (13, .v (.int .i64 (i : Int))), (14, .p 25007 0), (141, .v (.int .i64 (k : Int))), (142, .v (.int .i64 (y.1 : Int)))]) (fun y => [(1, ⟨44, [.v (.bool false), .v (.slice none 0 0), .v (.bool false), .v (.slice none 0 0)]⟩), (2001, ⟨44, qc f6⟩), (25007, ⟨44, qc fg⟩)])
   (fun y u' m' => y.1 ≤ k ∧ AtP QP u' y.2 (mixR (subR g (divR F R) S) S y.1) ∧ Bag m' (pArr (.slice pa P.length pc) P :: oQ (.slice (some ⟨go, 0, none⟩) n co) rows3 :: (rows3.set i ((Value.slice (some ⟨gi, 0, none⟩) k ci), y.2)).map qRow)) (fun y => k - y.1) (0, ei) (by kernel_rfl) (fun _ => by kernel_rfl) ⟨by kernel_rfl, by kernel_rfl, by kernel_rfl⟩
   ⟨Nat.zero_le _, by rw [mixR_zero]; exact hAi.mono (fun _ _ k => k.mono l9), by rw [set_same hri]; exact hbag3⟩ ?_
  rintro J5 ⟨y, es2⟩ hJ5 u10 m10 l10 ⟨hy, hAt, hbk⟩
  simp only at hy hAt hbk hJ5
  have hml := mixR_len (k := y) hsl (by omega)
  have hel : es2.length = k := by rw [hAt.1, hml, hSl]
  have hget : (rows3.set i ((Value.slice (some ⟨gi, 0, none⟩) k ci), es2))[i]? = some ((Value.slice (some ⟨gi, 0, none⟩) k ci), es2) := by rw [List.getElem?_set]; simp [hr3, hin]
  have hgets : (rows3.set i ((Value.slice (some ⟨gi, 0, none⟩) k ci), es2))[P.length]? = some (Value.slice (some ⟨gs, 0, none⟩) k cs, er3) := by rw [List.getElem?_set, if_neg hir]; exact hrs
  by_cases hyk : y < k
  ·refine G.lssT (y : Int) (k : Int) (by kernel_rfl) (by omega) ?_
   obtain ⟨e, e1, e2⟩ := hAt.at (j := y) (by omega)
   obtain ⟨fe, rfl⟩ := e2.opQ
   rw [← gR_at (by omega), mixR_at hsl (by omega)] at e2
   have ho : ElP m10 go (0 + i * 1) (Value.slice (some ⟨gi, 0, none⟩) k ci) := hbk.el 1 (x := oQ (.slice (some ⟨go, 0, none⟩) n co) rows3) rfl rfl (by show (rows3.map (·.1))[i]? = _; rw [List.getElem?_map, hri]; rfl)
   have hop : ElP m10 go (0 + P.length * 1) (Value.slice (some ⟨gs, 0, none⟩) k cs) := hbk.el 1 (x := oQ (.slice (some ⟨go, 0, none⟩) n co) rows3) rfl rfl (by show (rows3.map (·.1))[P.length]? = _; rw [List.getElem?_map, hrs]; rfl)
   have he : ElP m10 gi (0 + y * 4) (qv fe) := hbk.el (i + 2) (x := qRow ((Value.slice (some ⟨gi, 0, none⟩) k ci), es2)) (get_qrow hget) rfl e1
   obtain ⟨fs, s5, s6, _⟩ := hcs y hyk
   rw [hrr3] at s6
   have hes : ElP m10 gs (0 + y * 4) (qv fs) := hbk.el (P.length + 2) (x := qRow (Value.slice (some ⟨gs, 0, none⟩) k cs, er3)) (get_qrow hgets) rfl s5
   refine G.addr go 0 n co i 1 (by kernel_rfl) hin ?_
   refine G.loadM none go (0 + i * 1) _ (by kernel_rfl) (by kernel_rfl) ho ?_
   refine G.addr go 0 n co i 1 (by kernel_rfl) hin ?_
   refine G.loadM none go (0 + i * 1) _ (by kernel_rfl) (by kernel_rfl) ho ?_
   refine G.addr gi 0 k ci y 4 (by kernel_rfl) hyk ?_
   refine G.loadM (some 4) gi (0 + y * 4) (qv fe) (by kernel_rfl) (by kernel_rfl) he ?_
   refine G.addr go 0 n co P.length 1 (by kernel_rfl) hP ?_
   refine G.loadM none go (0 + P.length * 1) _ (by kernel_rfl) (by kernel_rfl) hop ?_
   refine G.addr gs 0 k cs y 4 (by kernel_rfl) hyk ?_
   refine G.loadM (some 4) gs (0 + y * 4) (qv fs) (by kernel_rfl) (by kernel_rfl) hes ?_
   refine G.call0 _ _ (by kernel_rfl) Tryz.call18 (refMul0 (g6.mono (l9.trans l10)) (s6.mono (l9.trans l10)) (hgz.mono (by omega)) ((hdz y hyk).mono (by omega))) ?_
   intro v11 u11 l11 k11
   obtain ⟨f11, rfl⟩ := k11.opQ
   have hmz := sz_mul2 hgz (hdz y hyk)
   refine G.call0 _ _ (by kernel_rfl) Tryz.call28 (refSub0 (e2.mono l11) k11 ((hSz y hyk).mono (by omega)) (hmz.mono (by omega))) ?_
   intro v12 u12 l12 k12
   obtain ⟨f12, rfl⟩ := k12.opQ
   obtain ⟨m0, hx0, hput⟩ := hbk.focus (i + 2) (get_qrow hget)
   rw [qRow_at] at hx0
   refine G.addr gi 0 k ci y 4 (by kernel_rfl) hyk ?_
   refine G.storeA 4 m0 es2 gi k ci y (qv f12) (by kernel_rfl) hx0 (by omega) rfl rfl ?_
   intro m13 hx13
   have hb13 := hput (qRow ((Value.slice (some ⟨gi, 0, none⟩) k ci), es2.set y (qv f12))) m13 hx13
   rw [set_qrow, List.set_set] at hb13
   refine G.add (y : Int) 1 ((y + 1 : Nat) : Int) (by kernel_rfl) (by omega) (by omega) (by omega) ?_
   refine G.back (by kernel_rfl) (hJ5 (y + 1, es2.set y (qv f12)) _ _ _ ⟨by kernel_rfl, by kernel_rfl, by kernel_rfl⟩ ((l10.trans l11).trans l12) ⟨by dsimp only; omega, ?_, hb13⟩ (by dsimp only; omega))
   dsimp only
   rw [← mixR_set hsl (by omega), gR_sub _ _ _ (by omega)]
   exact (hAt.mono (fun _ _ k => k.mono (l11.trans l12))).set y k12
  obtain rfl : y = k := by omega
  refine G.lssF (y : Int) (y : Int) (by kernel_rfl) (by omega) ?_
  rw [mixR_all (by omega) hSl] at hAt
  rw [← oQ_set (es' := es2) hri] at hbk
  refine G.add (i : Int) 1 ((i + 1 : Nat) : Int) (by kernel_rfl) (by omega) (by omega) (by omega) ?_
  have hX4 : Rec n y (X3.set i (subR g (divR F R) S)) := rec_set hX3 hin (by omega)
  have hrow4 : ∀ x, gM (X3.set i (subR g (divR F R) S)) x = if i = x then subR g (divR F R) S else gM X3 x := fun x => gM_set (by rw [hX3.1]; exact hin)
  refine G.back (by kernel_rfl) (hJ4 (i + 1, rows3.set i ((Value.slice (some ⟨gi, 0, none⟩) y ci), es2), X3.set i (subR g (divR F R) S)) _ _ _ ⟨by kernel_rfl, by kernel_rfl, by kernel_rfl⟩ ((l8.trans l9).trans l10) ⟨by dsimp only; omega, hcl2, hX4, ?_, ?_, ?_, ?_, hbk⟩ (by dsimp only; omega))
  ·dsimp only; rw [hrow4, if_neg hir]; exact hrr3
  ·intro x j h1 h2 h3 h4
   dsimp only at h1 ⊢
   rw [hrow4, if_neg (by omega)]; exact hszi x j (by omega) h2 h3 h4
  ·refine szM_of hX4 (fun x j hx hj => ?_)
   rw [hrow4]
   split
   ·rw [gR_sub _ _ _ (by omega)]
    exact (sz_sub2 (hSz j hj) (sz_mul2 hgz (hdz j hj))).mono (by omega)
   ·exact hsz3.at hX3 hx hj
  ·exact (hQ3.mono (l9.trans l10)).set (i := i) (r := ((Value.slice (some ⟨gi, 0, none⟩) y ci), es2)) (by omega) hAt
 obtain rfl : i = n := by omega
 refine G.lssF (i : Int) (i : Int) (by kernel_rfl) (by omega) ?_
 rw [Nat.sub_self, clrGo] at hcl
 rw [← hcl] at hgo
 refine G.buildU 3 1 8 (.int .i64 0) [.int .i64 (c : Int)] (by kernel_rfl) (intsV_ok [c]) rfl (by omega) (by simp) (by simp) ?_
 intro g9 u9 l9 e9
 obtain ⟨m0, hx0, hbr⟩ := hbag3
 rw [pArr_at] at hx0
 have hil : (intsV P).length = P.length := by simp [intsV]
 refine G.append 3 1 8 (.int .i64 0) m0 (intsV P) [.int .i64 (c : Int)] (.slice pa P.length pc) g9 0 1 1 (by kernel_rfl) rfl rfl (by omega) hx0 e9 (intsV_ok [c]) rfl (by omega) (by omega) (by omega) ?_
 intro v10 m10 hx10
 rw [show intsV P ++ [Value.int .i64 (c : Int)] = intsV (P ++ [c]) by simp [intsV]] at hx10
 obtain ⟨a10, c10, rfl⟩ := hx10.shape
 have el : (intsV (P ++ [c])).length = (P ++ [c]).length := by simp [intsV]
 rw [el] at hx10 ⊢
 refine G.add (c : Int) 1 ((c + 1 : Nat) : Int) (by kernel_rfl) (by omega) (by omega) (by omega) ?_
 refine G.back (by kernel_rfl) (hJ ⟨c + 1, P ++ [c], a10, c10, rows3, X3, f6, d1 * F⟩ _ _ _ ⟨by kernel_rfl, by kernel_rfl, by kernel_rfl⟩ ((((((l2.trans l3).trans l4).trans l5).trans l6).trans l7).trans (l8.trans l9)) ⟨by dsimp only; omega, by simp; omega, hgo, hX3, ?_, ?_, k6.mono ((l7.trans l8).trans l9), hQ3.mono l9, m0, hx10, hbr⟩ (by dsimp only; omega))
 ·dsimp only; rw [hE1]; exact hsz3
 ·dsimp only; rw [hE1]; exact (sz_mul2 hsd1 hFz).mono (by omega)
end Go.Proofs.YtldokelpolbnnaaGreatDoor
end
section
set_option linter.unusedVariables false
set_option linter.unusedSimpArgs false
namespace Go.Proofs.YtldokelpolbnnaaGreatDoor
def In (N : Nat) (q : Rat) : Prop := ∃ z : Int, q = (z : Rat) ∧ z.natAbs ≤ N
theorem In.add {N M : Nat} {q r : Rat} (h : In N q) (h' : In M r) : In (N + M) (q + r) := by
 obtain ⟨z, rfl, hz⟩ := h
 obtain ⟨y, rfl, hy⟩ := h'
 exact ⟨z + y, by rw [Rat.intCast_add], by omega⟩
theorem In.neg {N : Nat} {q : Rat} (h : In N q) : In N (-q) := by
 obtain ⟨z, rfl, hz⟩ := h
 exact ⟨-z, by rw [Rat.intCast_neg], by omega⟩
theorem In.sub {N M : Nat} {q r : Rat} (h : In N q) (h' : In M r) : In (N + M) (q - r) := by
 rw [Rat.sub_eq_add_neg]; exact h.add h'.neg
theorem In.mul {N M : Nat} {q r : Rat} (h : In N q) (h' : In M r) : In (N * M) (q * r) := by
 obtain ⟨z, rfl, hz⟩ := h
 obtain ⟨y, rfl, hy⟩ := h'
 exact ⟨z * y, by rw [Rat.intCast_mul], by rw [Int.natAbs_mul]; exact Nat.mul_le_mul hz hy⟩
theorem In.zero : In 0 0 := ⟨0, by decide, by decide⟩
theorem In.one : In 1 1 := ⟨1, by decide, by decide⟩
theorem In.tx {N : Nat} {q : Rat} (h : In N q) (hN : N < 1000000000) : Tx q := by
 obtain ⟨z, rfl, hz⟩ := h
 refine ⟨?_, ?_⟩
 ·have e : ((z : Int) : Rat).num = z := by simp
  rw [e]
  exact Nat.le_trans (dig_of_lt (k := 9) (by omega) (by omega)) (by omega)
 ·have e : ((z : Int) : Rat).den = 1 := by simp
  rw [e]
  exact Nat.le_trans (dig_of_lt (k := 9) (by omega) (by omega)) (by omega)
theorem In.up {N : Nat} {q : Rat} (h : In N q) (hN : N < 1000000000) : In 999999999 q := by
 obtain ⟨z, e, hz⟩ := h; exact ⟨z, e, by omega⟩
theorem SmI.in {q : Rat} (h : SmI q) : In 3 q := by
 refine ⟨q.num, ?_, h.num⟩
 apply Rat.ext
 ·simp
 ·simp [h.den]
theorem len4 {α : Type} {l : List α} (h : l.length = 4) : ∃ a b c d, l = [a, b, c, d] := by
 match l, h with
 | [a, b, c, d], _ => exact ⟨a, b, c, d, rfl⟩
theorem sq4 {B : List (List Rat)} (h : SqN 4 B) : ∃ a b c d e f g h i j k l m n o p, B = [[a, b, c, d], [e, f, g, h], [i, j, k, l], [m, n, o, p]] := by
 obtain ⟨h1, h2⟩ := h
 obtain ⟨r, s, t, u, rfl⟩ := len4 h1
 obtain ⟨a, b, c, d, rfl⟩ := len4 (h2 r (by simp))
 obtain ⟨e, f, g, h, rfl⟩ := len4 (h2 s (by simp))
 obtain ⟨i, j, k, l, rfl⟩ := len4 (h2 t (by simp))
 obtain ⟨m, n, o, p, rfl⟩ := len4 (h2 u (by simp))
 exact ⟨a, b, c, d, e, f, g, h, i, j, k, l, m, n, o, p, rfl⟩
structure ProdOK (A : List (List Rat)) (n : Nat) : Prop where
 top : gR (charL A) n = 1
 tr : gR (charL A) (n - 1) = 0 - trL A
 det : gR (charL A) 0 = if n % 2 = 1 then 0 - dtm n (en A) else dtm n (en A)
 inn : ∀ q ∈ charL A, In 999999999 q
 txt : Tx (trL A)
 txd : Tx (dtm n (en A))
theorem ProdOK.tx {A : List (List Rat)} {n : Nat} (h : ProdOK A n) : ∀ q ∈ charL A, Tx q := fun q hq => (h.inn q hq).tx (by omega)
theorem In.sz {N : Nat} {q : Rat} (h : In N q) (hN : N < 1000000000) : Sz q 1 := by
 obtain ⟨z, rfl, hz⟩ := h
 exact sz_one (by omega)
theorem ProdOK.sz {A : List (List Rat)} {n : Nat} (h : ProdOK A n) : SzL (charL A) 1 := fun q hq => (h.inn q hq).sz (by omega)
theorem prod1 (a : Rat) (ha : In 3 a) : ProdOK [[a]] 1 := by
 have e1 : trL [[a]] = 0 + a := by simp [trL, trGo, gR, gM]
 have e2 : dtm 1 (en [[a]]) = a := by simp [dtm, en, gR, gM]
 refine ⟨by rw [char1]; rfl, by rw [char1, e1]; simp [gR]; grind, by rw [char1, e2]; simp [gR]; grind, ?_, by rw [e1]; exact (In.zero.add ha).tx (by omega), by rw [e2]; exact ha.tx (by omega)⟩
 rw [char1]
 intro q hq
 simp at hq
 rcases hq with rfl | rfl
 ·exact ha.neg.up (by omega)
 ·exact In.one.up (by omega)
theorem prod2 (a b c d : Rat) (ha : In 3 a) (hb : In 3 b) (hc : In 3 c) (hd : In 3 d) : ProdOK [[a, b], [c, d]] 2 := by
 have e1 : trL [[a, b], [c, d]] = 0 + a + d := by simp [trL, trGo, gR, gM]
 have e2 : dtm 2 (en [[a, b], [c, d]]) = a * d - b * c := by simp [dtm, en, gR, gM]
 have i2 : In _ (a * d - b * c) := (ha.mul hd).sub (hb.mul hc)
 refine ⟨by rw [char2]; rfl, by rw [char2, e1]; simp [gR]; grind, by rw [char2, e2]; simp [gR], ?_, by rw [e1]; exact ((In.zero.add ha).add hd).tx (by omega), by rw [e2]; exact i2.tx (by omega)⟩
 rw [char2]
 intro q hq
 simp at hq
 rcases hq with rfl | rfl | rfl
 ·exact i2.up (by omega)
 ·exact (ha.neg.sub hd).up (by omega)
 ·exact In.one.up (by omega)
theorem prod3 (a b c d e f g h i : Rat) (ha : In 3 a) (hb : In 3 b) (hc : In 3 c) (hd : In 3 d) (he : In 3 e) (hf : In 3 f) (hg : In 3 g) (hh : In 3 h) (hi : In 3 i) : ProdOK [[a, b, c], [d, e, f], [g, h, i]] 3 := by
 have e1 : trL [[a, b, c], [d, e, f], [g, h, i]] = 0 + a + e + i := by simp [trL, trGo, gR, gM]
 have e2 : dtm 3 (en [[a, b, c], [d, e, f], [g, h, i]]) = a * (e * i - f * h) - b * (d * i - f * g) + c * (d * h - e * g) := by simp [dtm, en, gR, gM]
 have i3 : In _ (a * (e * i - f * h) - b * (d * i - f * g) + c * (d * h - e * g)) := ((ha.mul ((he.mul hi).sub (hf.mul hh))).sub (hb.mul ((hd.mul hi).sub (hf.mul hg)))).add (hc.mul ((hd.mul hh).sub (he.mul hg)))
 refine ⟨by rw [char3]; rfl, by rw [char3, e1]; simp [gR]; grind, by rw [char3, e2]; simp [gR]; grind, ?_, by rw [e1]; exact (((In.zero.add ha).add he).add hi).tx (by omega), by rw [e2]; exact i3.tx (by omega)⟩
 rw [char3]
 intro q hq
 simp at hq
 rcases hq with rfl | rfl | rfl | rfl
 ·exact i3.neg.up (by omega)
 ·exact ((((((ha.mul he).sub (hb.mul hd)).add (ha.mul hi)).sub (hc.mul hg)).add (he.mul hi)).sub (hf.mul hh)).up (by omega)
 ·exact ((ha.neg.sub he).sub hi).up (by omega)
 ·exact In.one.up (by omega)
theorem in3 {a b c d e f g h i : Rat} (ha : In 3 a) (hb : In 3 b) (hc : In 3 c) (hd : In 3 d) (he : In 3 e) (hf : In 3 f) (hg : In 3 g) (hh : In 3 h) (hi : In 3 i) : In 162 (a * (e * i - f * h) - b * (d * i - f * g) + c * (d * h - e * g)) :=
 ((ha.mul ((he.mul hi).sub (hf.mul hh))).sub (hb.mul ((hd.mul hi).sub (hf.mul hg)))).add (hc.mul ((hd.mul hh).sub (he.mul hg)))
theorem prod4 (a b c d e f g h i j : Rat) (ha : In 3 a) (hb : In 3 b) (hc : In 3 c) (hd : In 3 d) (he : In 3 e) (hf : In 3 f) (hg : In 3 g) (hh : In 3 h) (hi : In 3 i) (hj : In 3 j) : ProdOK [[a, b, c, d], [b, e, f, g], [c, f, h, i], [d, g, i, j]] 4 := by
 have e1 : trL [[a, b, c, d], [b, e, f, g], [c, f, h, i], [d, g, i, j]] = 0 + a + e + h + j := by simp [trL, trGo, gR, gM]
 have hch := (char4_1 a b c d e f g h i j).trans ((char4_2 a b c d e f g h i j).trans ((char4_3 a b c d e f g h i j).trans (char4_4 a b c d e f g h i j)))
 have e0 : (fun x y => gR (gM [[a, b, c, d], [b, e, f, g], [c, f, h, i], [d, g, i, j]] x) y) = en [[a, b, c, d], [b, e, f, g], [c, f, h, i], [d, g, i, j]] := rfl
 rw [e0] at hch
 have i4 : In 1944 (dtm 4 (en [[a, b, c, d], [b, e, f, g], [c, f, h, i], [d, g, i, j]])) := by
  have e2 : dtm 4 (en [[a, b, c, d], [b, e, f, g], [c, f, h, i], [d, g, i, j]]) = a * (e * (h * j - i * i) - f * (f * j - i * g) + g * (f * i - h * g)) - b * (b * (h * j - i * i) - f * (c * j - i * d) + g * (c * i - h * d)) + c * (b * (f * j - i * g) - e * (c * j - i * d) + g * (c * g - f * d)) - d * (b * (f * i - h * g) - e * (c * i - h * d) + f * (c * g - f * d)) := by simp [dtm, en, gR, gM]
  rw [e2]
  exact (((ha.mul (in3 he hf hg hf hh hi hg hi hj)).sub (hb.mul (in3 hb hf hg hc hh hi hd hi hj))).add (hc.mul (in3 hb he hg hc hf hi hd hg hj))).sub (hd.mul (in3 hb he hf hc hf hh hd hg hi))
 refine ⟨by rw [hch]; rfl, by rw [hch, e1]; simp [gR]; grind, by rw [hch]; simp [gR], ?_, by rw [e1]; exact ((((In.zero.add ha).add he).add hh).add hj).tx (by omega), i4.tx (by omega)⟩
 rw [hch]
 intro q hq
 simp only [List.mem_cons, List.not_mem_nil, or_false] at hq
 rcases hq with rfl | rfl | rfl | rfl | rfl
 ·exact i4.up (by omega)
 ·exact ((((in3 he hf hg hf hh hi hg hi hj).neg.sub (in3 ha hc hd hc hh hi hd hi hj)).sub (in3 ha hb hd hb he hg hd hg hj)).sub (in3 ha hb hc hb he hf hc hf hh)).up (by omega)
 ·exact ((((((((((((ha.mul he).sub (hb.mul hb)).add (ha.mul hh)).sub (hc.mul hc)).add (ha.mul hj)).sub (hd.mul hd)).add (he.mul hh)).sub (hf.mul hf)).add (he.mul hj)).sub (hg.mul hg)).add (hh.mul hj)).sub (hi.mul hi)).up (by omega)
 ·exact (((ha.neg.sub he).sub hh).sub hj).up (by omega)
 ·exact In.one.up (by omega)
theorem prod_all {A : List (List Rat)} {n : Nat} (hl : A.length = n) (h0 : 1 ≤ n) (h4 : n ≤ 4) (hT : ThinOK A n) (hs : ∀ i j, j < i → i < n → gR (gM A i) j = gR (gM A j) i) : ProdOK A n := by
 have hq := thin_sq hl hT
 have hin : ∀ i, i < A.length → ∀ q ∈ gM A i, In 3 q := fun i hi q hq => ((hT i hi).2 q hq).in
 match n, h0, h4 with
 | 1, _, _ =>
  obtain ⟨a, rfl⟩ := sq1 hq
  exact prod1 a (hin 0 (by simp) a (by simp [gM]))
 | 2, _, _ =>
  obtain ⟨a, b, c, d, rfl⟩ := sq2 hq
  exact prod2 a b c d (hin 0 (by simp) a (by simp [gM])) (hin 0 (by simp) b (by simp [gM])) (hin 1 (by simp) c (by simp [gM])) (hin 1 (by simp) d (by simp [gM]))
 | 3, _, _ =>
  obtain ⟨a, b, c, d, e, f, g, h, i, rfl⟩ := sq3 hq
  exact prod3 a b c d e f g h i (hin 0 (by simp) a (by simp [gM])) (hin 0 (by simp) b (by simp [gM])) (hin 0 (by simp) c (by simp [gM])) (hin 1 (by simp) d (by simp [gM])) (hin 1 (by simp) e (by simp [gM])) (hin 1 (by simp) f (by simp [gM])) (hin 2 (by simp) g (by simp [gM])) (hin 2 (by simp) h (by simp [gM])) (hin 2 (by simp) i (by simp [gM]))
 | 4, _, _ =>
  obtain ⟨a, b, c, d, b', e, f, g, c', f', h, i, d', g', i', j, rfl⟩ := sq4 hq
  obtain rfl : b' = b := hs 1 0 (by omega) (by omega)
  obtain rfl : c' = c := hs 2 0 (by omega) (by omega)
  obtain rfl : d' = d := hs 3 0 (by omega) (by omega)
  obtain rfl : f' = f := hs 2 1 (by omega) (by omega)
  obtain rfl : g' = g := hs 3 1 (by omega) (by omega)
  obtain rfl : i' = i := hs 3 2 (by omega) (by omega)
  exact prod4 _ _ _ _ _ _ _ _ _ _ (hin 0 (by simp) _ (by simp [gM])) (hin 0 (by simp) _ (by simp [gM])) (hin 0 (by simp) _ (by simp [gM])) (hin 0 (by simp) _ (by simp [gM])) (hin 1 (by simp) e (by simp [gM])) (hin 1 (by simp) _ (by simp [gM])) (hin 1 (by simp) _ (by simp [gM])) (hin 2 (by simp) h (by simp [gM])) (hin 2 (by simp) _ (by simp [gM])) (hin 3 (by simp) j (by simp [gM]))
end Go.Proofs.YtldokelpolbnnaaGreatDoor
end
section
set_option linter.unusedVariables false
set_option linter.unusedSimpArgs false
namespace Go.Proofs.YtldokelpolbnnaaGreatDoor
theorem sg_one (q : Rat) (h : q ≠ 0) : sg q = 1 ∨ sg q = -1 := by
 rcases sg_cases q with ⟨h1, h2⟩ | ⟨h1, h2⟩ | ⟨h1, h2⟩
 ·exact .inr h2
 ·exact absurd h1 h
 ·exact .inl h2
theorem sg_step {h a b : Rat} (hh : 0 < h) : sg (a + h * b) = sg a ∨ sg (a + h * b) = sg b ∨ (sg (a + h * b) = 0 ∧ sg a = -(sg b)) := by
 have hm : ∀ {x y : Rat}, 0 < x → 0 < y → 0 < x * y := fun hx hy => Rat.mul_pos hx hy
 rcases sg_cases b with ⟨b1, b2⟩ | ⟨b1, b2⟩ | ⟨b1, b2⟩
 ·have h1 : h * b < 0 := mul_neg_of hh b1
  rcases sg_cases a with ⟨a1, a2⟩ | ⟨a1, a2⟩ | ⟨a1, a2⟩
  ·left; rw [a2]; exact sg_neg (by grind)
  ·right; left; rw [b2]; exact sg_neg (by grind)
  ·rcases sg_cases (a + h * b) with ⟨c1, c2⟩ | ⟨c1, c2⟩ | ⟨c1, c2⟩
   ·right; left; rw [c2, b2]
   ·right; right; exact ⟨c2, by rw [a2, b2]; rfl⟩
   ·left; rw [c2, a2]
 ·left; rw [b1]; congr 1; grind
 ·have h1 : 0 < h * b := hm hh b1
  rcases sg_cases a with ⟨a1, a2⟩ | ⟨a1, a2⟩ | ⟨a1, a2⟩
  ·rcases sg_cases (a + h * b) with ⟨c1, c2⟩ | ⟨c1, c2⟩ | ⟨c1, c2⟩
   ·left; rw [c2, a2]
   ·right; right; exact ⟨c2, by rw [a2, b2]⟩
   ·right; left; rw [c2, b2]
  ·right; left; rw [b2]; exact sg_pos (by grind)
  ·left; rw [a2]; exact sg_pos (by grind)
theorem chg_cons (s : Int) (q : Rat) (l : List Rat) : chg s (q :: l) = if sg q = -s then chg (-s) l + 1 else chg s l := rfl
theorem chg_step {h a b : Rat} (hh : 0 < h) (l : List Rat) {s : Int} (hs : s = 1 ∨ s = -1) : chg s ((a + h * b) :: b :: l) ≤ chg s (a :: b :: l) := by
 rcases sg_step (a := a) (b := b) hh with e | e | ⟨e, e'⟩
 ·rw [chg_cons, chg_cons, e]; exact Nat.le_refl _
 ·have key : chg s ((a + h * b) :: b :: l) = chg s (b :: l) := by
   rw [chg_cons, chg_cons s b, e]
   by_cases hb : sg b = -s
   ·rw [if_pos hb, if_pos hb, chg_cons, if_neg (by rw [hb]; rcases hs with rfl | rfl <;> decide)]
   ·rw [if_neg hb, if_neg hb]
  rw [key, chg_cons s a]
  split
  ·have := chg_flip s hs (b :: l); omega
  ·exact Nat.le_refl _
 ·have key : chg s ((a + h * b) :: b :: l) = chg s (b :: l) := by
   rw [chg_cons, e, if_neg (by rcases hs with rfl | rfl <;> decide)]
  rw [key, chg_cons s a]
  split
  ·have := chg_flip s hs (b :: l); omega
  ·exact Nat.le_refl _
theorem chg_pre {X Y : List Rat} (h : ∀ s : Int, s = 1 ∨ s = -1 → chg s X ≤ chg s Y) : ∀ (pre : List Rat) (s : Int), s = 1 ∨ s = -1 → chg s (pre ++ X) ≤ chg s (pre ++ Y)
 | [], s, hs => h s hs
 | q :: pre, s, hs => by
  rw [List.cons_append, List.cons_append, chg_cons, chg_cons]
  split
  ·have := chg_pre h pre (-s) (by rcases hs with rfl | rfl <;> simp)
   omega
  ·exact chg_pre h pre s hs
theorem var_cons (q : Rat) (l : List Rat) : var (q :: l) = if q = 0 then var l else chg (sg q) l := by
 by_cases h : q = 0
 ·rw [if_pos h, h, var_zero]
 ·rw [if_neg h, var_nz _ h]
theorem var_step {h a b : Rat} (hh : 0 < h) (l : List Rat) : var ((a + h * b) :: b :: l) ≤ var (a :: b :: l) := by
 have hsb : b ≠ 0 → chg (sg b) (b :: l) = chg (sg b) l := fun hb => by
  rw [chg_cons, if_neg]
  rcases sg_one b hb with e | e <;> rw [e] <;> decide
 by_cases ha : a = 0
 ·subst ha
  rw [var_zero]
  by_cases hb : b = 0
  ·subst hb
   rw [show (0 : Rat) + h * 0 = 0 by grind, var_zero]; exact Nat.le_refl _
  ·have hne : (0 : Rat) + h * b ≠ 0 := by
    have := mul_nz (show h ≠ 0 by grind) hb
    grind
   have e : sg (0 + h * b) = sg b := by rw [show (0 : Rat) + h * b = h * b by grind]; exact sg_mulpos hh
   rw [var_nz _ hne, e, hsb hb, var_nz _ hb]; exact Nat.le_refl _
 ·have hsa := sg_one a ha
  have hva : var (a :: b :: l) = chg (sg a) (b :: l) := var_nz _ ha
  by_cases hc : a + h * b = 0
  ·rw [hc, var_zero, hva]
   have hb : b ≠ 0 := fun e => by rw [e] at hc; exact ha (by grind)
   rw [var_nz _ hb, chg_cons]
   have : sg b = -(sg a) := by
    rcases sg_cases a with ⟨a1, a2⟩ | ⟨a1, a2⟩ | ⟨a1, a2⟩
    ·rw [a2]
     rcases sg_cases b with ⟨b1, b2⟩ | ⟨b1, b2⟩ | ⟨b1, b2⟩
     ·have := mul_neg_of hh b1; grind
     ·exact absurd b1 hb
     ·rw [b2]; rfl
    ·exact absurd a1 ha
    ·rw [a2]
     rcases sg_cases b with ⟨b1, b2⟩ | ⟨b1, b2⟩ | ⟨b1, b2⟩
     ·rw [b2]
     ·exact absurd b1 hb
     ·have := Rat.mul_pos hh b1; grind
   rw [if_pos this, ← this]; omega
  ·rw [var_nz _ hc]
   rcases sg_step (a := a) (b := b) hh with e | e | ⟨e, _⟩
   ·rw [e, hva]; exact Nat.le_refl _
   ·have hb : b ≠ 0 := fun hb0 => by
     rcases sg_one _ hc with x | x <;> rw [x] at e <;> rw [hb0, sg_zero] at e <;> simp at e
    rw [e, hsb hb, hva]
    by_cases e2 : sg a = sg b
    ·rw [e2, hsb hb]; exact Nat.le_refl _
    ·have e3 : sg b = -(sg a) := by
      rcases sg_one b hb with x | x <;> rcases hsa with y | y <;> rw [x, y] at e2 ⊢ <;> simp_all
     rw [chg_cons, if_pos e3, ← e3]; omega
   ·rcases sg_one _ hc with x | x <;> rw [x] at e <;> simp at e
theorem var_pre {X Y : List Rat} (h : ∀ s : Int, s = 1 ∨ s = -1 → chg s X ≤ chg s Y) (hv : var X ≤ var Y) : ∀ pre : List Rat, var (pre ++ X) ≤ var (pre ++ Y)
 | [] => hv
 | q :: pre => by
  rw [List.cons_append, List.cons_append, var_cons, var_cons]
  split
  ·exact var_pre h hv pre
  ·rename_i hq
   exact chg_pre h pre _ (sg_one q hq)
theorem var_at {h : Rat} (hh : 0 < h) (l : List Rat) (k : Nat) (hk : k + 1 < l.length) : var (l.set k (gR l k + h * gR l (k + 1))) ≤ var l := by
 have e : l = l.take k ++ (gR l k :: gR l (k + 1) :: l.drop (k + 2)) := by
  have h1 : l.drop k = l[k] :: l[k + 1] :: l.drop (k + 2) := by
   rw [List.drop_eq_getElem_cons (by omega), List.drop_eq_getElem_cons (by omega)]
  have g1 : gR l k = l[k] := by simp [gR, show k < l.length by omega]
  have g2 : gR l (k + 1) = l[k + 1] := by simp [gR, hk]
  rw [g1, g2, ← h1, List.take_append_drop]
 have e2 : l.set k (gR l k + h * gR l (k + 1)) = l.take k ++ ((gR l k + h * gR l (k + 1)) :: gR l (k + 1) :: l.drop (k + 2)) := by
  generalize gR l k + h * gR l (k + 1) = z
  conv => lhs; rw [e]
  have hl : (l.take k).length = k := by rw [List.length_take]; omega
  rw [List.set_append_right _ _ (by omega), hl, Nat.sub_self, List.set_cons_zero]
 rw [e2]
 conv => rhs; rw [e]
 exact var_pre (fun s hs => chg_step hh _ hs) (var_step hh _) _
theorem horGo_len (x : Rat) (i : Nat) : ∀ k l, (horGo x i k l).length = l.length
 | 0, l => rfl
 | k + 1, l => by
  unfold horGo
  split
  ·rfl
  ·rw [horGo_len x i k]; simp
theorem shiftGo_len (x : Rat) : ∀ f i l, (shiftGo x f i l).length = l.length
 | 0, i, l => rfl
 | f + 1, i, l => by unfold shiftGo; rw [shiftGo_len x f, horGo_len]
theorem var_hor {h : Rat} (hh : 0 < h) (i : Nat) : ∀ k l, k + 1 ≤ l.length → var (horGo h i k l) ≤ var l
 | 0, l, _ => Nat.le_refl _
 | k + 1, l, hk => by
  unfold horGo
  split
  ·exact Nat.le_refl _
  ·refine Nat.le_trans (var_hor hh i k _ (by simp; omega)) (var_at hh l k (by omega))
theorem var_shiftGo {h : Rat} (hh : 0 < h) : ∀ f i l, l ≠ [] → var (shiftGo h f i l) ≤ var l
 | 0, i, l, _ => Nat.le_refl _
 | f + 1, i, l, hl => by
  unfold shiftGo
  have h1 : 0 < l.length := List.length_pos_iff.2 hl
  have h2 : horGo h i (l.length - 1) l ≠ [] := fun e => by have := horGo_len h i (l.length - 1) l; rw [e] at this; simp at this; omega
  exact Nat.le_trans (var_shiftGo hh f (i + 1) _ h2) (var_hor hh i _ l (by omega))
theorem var_shift {h : Rat} (hh : 0 < h) (p : List Rat) : var (shiftL h p) ≤ var p := by
 by_cases e : p = []
 ·subst e; exact Nat.le_refl _
 ·exact var_shiftGo hh _ _ p e
theorem shift4 (x a b c d e : Rat) : shiftL x [a, b, c, d, e] = [a + x * b + x * x * c + x * x * x * d + x * x * x * x * e, b + 2 * x * c + 3 * x * x * d + 4 * x * x * x * e, c + 3 * x * d + 6 * x * x * e, d + 4 * x * e, e] := by
 simp [shiftL, shiftGo, horGo, gR]
 grind
theorem shift0 (x a : Rat) : shiftL x [a] = [a] := by simp [shiftL, shiftGo, horGo, gR]
theorem shift_add (x h : Rat) (p : List Rat) (hp : p.length ≤ 5) : shiftL h (shiftL x p) = shiftL (x + h) p := by
 match p, hp with
 | [], _ => rfl
 | [a], _ => rw [shift0, shift0, shift0]
 | [a, b], _ => rw [shift1, shift1, shift1]; simp only [List.cons.injEq, and_true]; grind
 | [a, b, c], _ => rw [shift2, shift2, shift2]; simp only [List.cons.injEq, and_true]; grind
 | [a, b, c, d], _ => rw [shift3, shift3, shift3]; simp only [List.cons.injEq, and_true]; grind
 | [a, b, c, d, e], _ => rw [shift4, shift4, shift4]; simp only [List.cons.injEq, and_true]; grind
theorem var_mono {x y : Rat} (h : x ≤ y) (p : List Rat) (hp : p.length ≤ 5) : var (shiftL y p) ≤ var (shiftL x p) := by
 by_cases e : x = y
 ·rw [e]; exact Nat.le_refl _
 ·have : y = x + (y - x) := by grind
  rw [this, ← shift_add x _ p hp]
  exact var_shift (by grind) _
theorem within_var (p : List Rat) (a b : Rat) : withinL p a b = (var (shiftL a p) : Int) - var (shiftL b p) := by
 unfold withinL lessL equalL; omega
end Go.Proofs.YtldokelpolbnnaaGreatDoor
end
section
set_option linter.unusedVariables false
set_option linter.unusedSimpArgs false
namespace Go.Proofs.YtldokelpolbnnaaGreatDoor
end Go.Proofs.YtldokelpolbnnaaGreatDoor
end
section
set_option linter.unusedVariables false
set_option linter.unusedSimpArgs false
namespace Go.Proofs.YtldokelpolbnnaaGreatDoor
end Go.Proofs.YtldokelpolbnnaaGreatDoor
end
section
set_option linter.unusedVariables false
set_option linter.unusedSimpArgs false
namespace Go.Proofs.YtldokelpolbnnaaGreatDoor
end Go.Proofs.YtldokelpolbnnaaGreatDoor
end
section
set_option linter.unusedVariables false
set_option linter.unusedSimpArgs false
namespace Go.Proofs.YtldokelpolbnnaaGreatDoor
theorem absR_nonneg (q : Rat) : 0 ≤ absR q := by unfold absR; split <;> grind
theorem absR_sq (q : Rat) : absR q * absR q = q * q := by unfold absR; split <;> grind
theorem absR_le (q : Rat) : q ≤ absR q ∧ -q ≤ absR q := by unfold absR; split <;> constructor <;> grind
theorem absR_neg (q : Rat) : absR (-q) = absR q := by
 unfold absR
 by_cases h : q < 0
 ·rw [if_neg (by grind), if_pos h]
 ·by_cases h' : q = 0
  ·subst h'; rfl
  ·rw [if_pos (by grind), if_neg h]; grind
theorem nn_mul {a b : Rat} (ha : 0 ≤ a) (hb : 0 ≤ b) : 0 ≤ a * b := Rat.mul_nonneg ha hb
theorem dd2 {x y b : Rat} (hx : absR b < x) (hy : absR b < y) : 0 < x * y - b * b := by
 have h0 := absR_nonneg b
 have h1 := absR_sq b
 have h2 : 0 < (x - absR b) * (y - absR b) := Rat.mul_pos (by grind) (by grind)
 have h3 : 0 ≤ absR b * (x - absR b) := nn_mul h0 (by grind)
 have h4 : 0 ≤ absR b * (y - absR b) := nn_mul h0 (by grind)
 grind
theorem dd3 {x y z b c f : Rat} (hx : absR b + absR c < x) (hy : absR b + absR f < y) (hz : absR c + absR f < z) : 0 < x * (y * z - f * f) - b * (b * z - f * c) + c * (b * f - y * c) := by
 have b0 := absR_nonneg b
 have c0 := absR_nonneg c
 have f0 := absR_nonneg f
 have b1 := absR_sq b
 have c1 := absR_sq c
 have f1 := absR_sq f
 have hm : 0 ≤ b * c * f + absR b * absR c * absR f := by
  unfold absR
  by_cases hb : b < 0 <;> by_cases hc : c < 0 <;> by_cases hf : f < 0 <;> simp only [hb, hc, hf, if_true, if_false]
  ·have := nn_mul (nn_mul (show 0 ≤ -b by grind) (show 0 ≤ -c by grind)) (show 0 ≤ -f by grind); grind
  ·have := nn_mul (nn_mul (show 0 ≤ -b by grind) (show 0 ≤ -c by grind)) (show 0 ≤ f by grind); grind
  ·have := nn_mul (nn_mul (show 0 ≤ -b by grind) (show 0 ≤ c by grind)) (show 0 ≤ -f by grind); grind
  ·have := nn_mul (nn_mul (show 0 ≤ -b by grind) (show 0 ≤ c by grind)) (show 0 ≤ f by grind); grind
  ·have := nn_mul (nn_mul (show 0 ≤ b by grind) (show 0 ≤ -c by grind)) (show 0 ≤ -f by grind); grind
  ·have := nn_mul (nn_mul (show 0 ≤ b by grind) (show 0 ≤ -c by grind)) (show 0 ≤ f by grind); grind
  ·have := nn_mul (nn_mul (show 0 ≤ b by grind) (show 0 ≤ c by grind)) (show 0 ≤ -f by grind); grind
  ·have := nn_mul (nn_mul (show 0 ≤ b by grind) (show 0 ≤ c by grind)) (show 0 ≤ f by grind); grind
 generalize absR b = α at *
 generalize absR c = β at *
 generalize absR f = γ at *
 obtain ⟨s, hs⟩ : ∃ s, s = x - α - β := ⟨_, rfl⟩
 obtain ⟨t, ht⟩ : ∃ t, t = y - α - γ := ⟨_, rfl⟩
 obtain ⟨r, hr⟩ : ∃ r, r = z - β - γ := ⟨_, rfl⟩
 have s0 : 0 < s := by grind
 have t0 : 0 < t := by grind
 have r0 : 0 < r := by grind
 have e : x * (y * z - f * f) - b * (b * z - f * c) + c * (b * f - y * c) = s * t * r + (s + t + r) * (α * β + α * γ + β * γ) + s * t * (β + γ) + s * r * (α + γ) + t * r * (α + β) + 2 * (b * c * f + α * β * γ) := by
  have : x = s + α + β := by grind
  have : y = t + α + γ := by grind
  have : z = r + β + γ := by grind
  subst x; subst y; subst z
  have e1 : b * b = α * α := b1.symm
  have e2 : c * c = β * β := c1.symm
  have e3 : f * f = γ * γ := f1.symm
  rw [show (s + α + β) * ((t + α + γ) * (r + β + γ) - f * f) - b * (b * (r + β + γ) - f * c) + c * (b * f - (t + α + γ) * c) = (s + α + β) * ((t + α + γ) * (r + β + γ) - f * f) - (b * b) * (r + β + γ) - (c * c) * (t + α + γ) + 2 * (b * c * f) by grind, e1, e2, e3]
  grind
 rw [e]
 have p1 : 0 < s * t * r := Rat.mul_pos (Rat.mul_pos s0 t0) r0
 have p2 : 0 ≤ (s + t + r) * (α * β + α * γ + β * γ) := nn_mul (by grind) (by have := nn_mul b0 c0; have := nn_mul b0 f0; have := nn_mul c0 f0; grind)
 have p3 : 0 ≤ s * t * (β + γ) := nn_mul (nn_mul (by grind) (by grind)) (by grind)
 have p4 : 0 ≤ s * r * (α + γ) := nn_mul (nn_mul (by grind) (by grind)) (by grind)
 have p5 : 0 ≤ t * r * (α + β) := nn_mul (nn_mul (by grind) (by grind)) (by grind)
 grind
theorem sgp {q : Rat} (h : 0 < q) : sg q = 1 := sg_pos h
theorem varP3 {a b c : Rat} (ha : 0 < a) (hb : 0 < b) (hc : 0 < c) : var [a, b, c] = 0 := by
 rw [var_nz _ (by grind), sgp ha, chg_cons, sgp hb, if_neg (by decide), chg_cons, sgp hc, if_neg (by decide)]; rfl
theorem varP4 {a b c d : Rat} (ha : 0 < a) (hb : 0 < b) (hc : 0 < c) (hd : 0 < d) : var [a, b, c, d] = 0 := by
 rw [var_nz _ (by grind), sgp ha, chg_cons, sgp hb, if_neg (by decide), chg_cons, sgp hc, if_neg (by decide), chg_cons, sgp hd, if_neg (by decide)]; rfl
theorem varN3 {a b c : Rat} (ha : 0 < a) (hb : b < 0) (hc : 0 < c) : var [a, b, c] = 2 := by
 rw [var_nz _ (by grind)]; simp [chg_cons, sgp ha, sg_neg hb, sgp hc, chg]
theorem varN4 {a b c d : Rat} (ha : a < 0) (hb : 0 < b) (hc : c < 0) (hd : 0 < d) : var [a, b, c, d] = 3 := by
 rw [var_nz _ (by grind)]; simp [chg_cons, sg_neg ha, sgp hb, sg_neg hc, sgp hd, chg]
theorem all1 {a E : Rat} (h : absR a < E) : withinL (charL [[a]]) (-E) E = 1 := by
 obtain ⟨h1, h2⟩ := absR_le a
 rw [within_var, char1, shift1, shift1, var_nz _ (show -a + -E * 1 ≠ 0 by grind), var_nz _ (show -a + E * 1 ≠ 0 by grind), sg_neg (show -a + -E * 1 < 0 by grind), sgp (show 0 < -a + E * 1 by grind), chg_cons, chg_cons, sgp (show (0 : Rat) < 1 by decide)]; rfl
theorem all2 {a b d E : Rat} (h1 : absR a + absR b < E) (h2 : absR b + absR d < E) : withinL (charL [[a, b], [b, d]]) (-E) E = 2 := by
 obtain ⟨a1, a2⟩ := absR_le a
 obtain ⟨d1, d2⟩ := absR_le d
 have b0 := absR_nonneg b
 have p1 := dd2 (x := E - a) (y := E - d) (b := b) (by grind) (by grind)
 have p2 := dd2 (x := E + a) (y := E + d) (b := b) (by grind) (by grind)
 rw [within_var, char2, shift2, shift2, varN3 (by grind) (by grind) (by decide), varP3 (by grind) (by grind) (by decide)]; rfl
theorem all3 {a b c e f i E : Rat} (h1 : absR a + absR b + absR c < E) (h2 : absR b + absR e + absR f < E) (h3 : absR c + absR f + absR i < E) : withinL (charL [[a, b, c], [b, e, f], [c, f, i]]) (-E) E = 3 := by
 obtain ⟨a1, a2⟩ := absR_le a
 obtain ⟨e1, e2⟩ := absR_le e
 obtain ⟨i1, i2⟩ := absR_le i
 have b0 := absR_nonneg b
 have c0 := absR_nonneg c
 have f0 := absR_nonneg f
 have p1 := dd3 (x := E - a) (y := E - e) (z := E - i) (b := -b) (c := -c) (f := -f) (by rw [absR_neg, absR_neg]; grind) (by rw [absR_neg, absR_neg]; grind) (by rw [absR_neg, absR_neg]; grind)
 have p2 := dd3 (x := E + a) (y := E + e) (z := E + i) (b := b) (c := c) (f := f) (by grind) (by grind) (by grind)
 have q1 := dd2 (x := E - a) (y := E - e) (b := b) (by grind) (by grind)
 have q2 := dd2 (x := E - a) (y := E - i) (b := c) (by grind) (by grind)
 have q3 := dd2 (x := E - e) (y := E - i) (b := f) (by grind) (by grind)
 have r1 := dd2 (x := E + a) (y := E + e) (b := b) (by grind) (by grind)
 have r2 := dd2 (x := E + a) (y := E + i) (b := c) (by grind) (by grind)
 have r3 := dd2 (x := E + e) (y := E + i) (b := f) (by grind) (by grind)
 rw [within_var, char3, shift3, shift3, varN4 (by grind) (by grind) (by grind) (by decide), varP4 (by grind) (by grind) (by grind) (by decide)]; rfl
end Go.Proofs.YtldokelpolbnnaaGreatDoor
end
section
set_option linter.unusedVariables false
set_option linter.unusedSimpArgs false
namespace Go.Proofs.YtldokelpolbnnaaGreatDoor
end Go.Proofs.YtldokelpolbnnaaGreatDoor
end
section
set_option linter.unusedVariables false
set_option linter.unusedSimpArgs false
namespace Go.Proofs.YtldokelpolbnnaaGreatDoor
theorem In.abs {N : Nat} {q : Rat} (h : In N q) : absR q ≤ (N : Rat) := by
 obtain ⟨z, rfl, hz⟩ := h
 have h1 : ((z : Int) : Rat) ≤ ((N : Int) : Rat) := Rat.intCast_le_intCast.2 (by omega)
 have h2 : ((-z : Int) : Rat) ≤ ((N : Int) : Rat) := Rat.intCast_le_intCast.2 (by omega)
 rw [Rat.intCast_neg] at h2
 have h3 : ((N : Int) : Rat) = (N : Rat) := rfl
 rw [h3] at h1 h2
 unfold absR
 split
 ·exact h2
 ·exact h1
end Go.Proofs.YtldokelpolbnnaaGreatDoor
end
section
set_option linter.unusedVariables false
set_option linter.unusedSimpArgs false
namespace Go.Proofs.YtldokelpolbnnaaGreatDoor
theorem chg_len : ∀ (l : List Rat) (s : Int), chg s l ≤ l.length
 | [], s => Nat.le_refl _
 | q :: l, s => by
  rw [chg_cons, List.length_cons]
  have h1 := chg_len l s
  have h2 := chg_len l (-s)
  split <;> omega
theorem var_len : ∀ l : List Rat, var l ≤ l.length
 | [] => Nat.le_refl _
 | q :: l => by
  rw [var_cons, List.length_cons]
  split
  ·have := var_len l; omega
  ·have := chg_len l (sg q); omega
end Go.Proofs.YtldokelpolbnnaaGreatDoor
end
section
set_option linter.unusedVariables false
set_option linter.unusedSimpArgs false
namespace Go.Proofs.YtldokelpolbnnaaGreatDoor
theorem absR_of_nonneg {q : Rat} (h : 0 ≤ q) : absR q = q := by unfold absR; rw [if_neg (by grind)]
theorem absR_of_neg {q : Rat} (h : q < 0) : absR q = -q := by unfold absR; rw [if_pos h]
theorem absR_mul (a b : Rat) : absR (a * b) = absR a * absR b := by
 by_cases ha : a < 0
 ·by_cases hb : b < 0
  ·have := Rat.mul_pos (show 0 < -a by grind) (show 0 < -b by grind)
   rw [absR_of_neg ha, absR_of_neg hb, absR_of_nonneg (by grind)]; grind
  ·rw [absR_of_neg ha, absR_of_nonneg (show 0 ≤ b by grind)]
   by_cases hb0 : b = 0
   ·rw [hb0, absR_of_nonneg (by grind)]; grind
   ·have := mul_neg_of (show 0 < b by grind) ha
    rw [absR_of_neg (by grind)]; grind
 ·rw [absR_of_nonneg (show 0 ≤ a by grind)]
  by_cases hb : b < 0
  ·rw [absR_of_neg hb]
   by_cases ha0 : a = 0
   ·rw [ha0, absR_of_nonneg (by grind)]; grind
   ·have := mul_neg_of (show 0 < a by grind) hb
    rw [absR_of_neg this]; grind
  ·have := nn_mul (show 0 ≤ a by grind) (show 0 ≤ b by grind)
   rw [absR_of_nonneg this, absR_of_nonneg (show 0 ≤ b by grind)]
theorem absR_sub (a b : Rat) : absR (a - b) ≤ absR a + absR b := by
 obtain ⟨a1, a2⟩ := absR_le a
 obtain ⟨b1, b2⟩ := absR_le b
 by_cases h : a - b < 0
 ·rw [absR_of_neg h]; grind
 ·rw [absR_of_nonneg (by grind)]; grind
theorem schur_row {x y a b c d e : Rat} (hx : absR a + absR b + absR c < x) (hy : absR a + absR d + absR e < y) : absR (x * d - a * b) + absR (x * e - a * c) < x * y - a * a := by
 have a0 := absR_nonneg a
 have b0 := absR_nonneg b
 have c0 := absR_nonneg c
 have d0 := absR_nonneg d
 have e0 := absR_nonneg e
 have h1 := absR_sub (x * d) (a * b)
 have h2 := absR_sub (x * e) (a * c)
 have x0 : 0 < x := by grind
 rw [absR_mul, absR_mul a b, absR_of_nonneg (show 0 ≤ x by grind)] at h1
 rw [absR_mul, absR_mul a c, absR_of_nonneg (show 0 ≤ x by grind)] at h2
 have h3 := absR_sq a
 have h4 : 0 < x * (y - absR a - absR d - absR e) := Rat.mul_pos x0 (by grind)
 have h5 : 0 ≤ absR a * (x - absR a - absR b - absR c) := nn_mul a0 (by grind)
 grind
def det4 (x y z w a b c d e f : Rat) : Rat :=
 x * (y * (z * w - f * f) - d * (d * w - f * e) + e * (d * f - z * e)) - a * (a * (z * w - f * f) - d * (b * w - f * c) + e * (b * f - z * c)) + b * (a * (d * w - f * e) - y * (b * w - f * c) + e * (b * e - d * c)) - c * (a * (d * f - z * e) - y * (b * f - z * c) + d * (b * e - d * c))
theorem dd4 {x y z w a b c d e f : Rat} (h1 : absR a + absR b + absR c < x) (h2 : absR a + absR d + absR e < y) (h3 : absR b + absR d + absR f < z) (h4 : absR c + absR e + absR f < w) : 0 < det4 x y z w a b c d e f := by
 have r1 := schur_row (x := x) (y := y) (a := a) (b := b) (c := c) (d := d) (e := e) h1 h2
 have r2 := schur_row (x := x) (y := z) (a := b) (b := a) (c := c) (d := d) (e := f) (by grind) (by grind)
 have r3 := schur_row (x := x) (y := w) (a := c) (b := a) (c := b) (d := e) (e := f) (by grind) (by grind)
 have x0 : 0 < x := by have := absR_nonneg a; have := absR_nonneg b; have := absR_nonneg c; grind
 have k := dd3 (x := x * y - a * a) (y := x * z - b * b) (z := x * w - c * c) (b := x * d - a * b) (c := x * e - a * c) (f := x * f - b * c) (by grind) (by
  rw [show b * a = a * b by grind] at r2; grind) (by
  rw [show c * a = a * c by grind, show c * b = b * c by grind] at r3; grind)
 have id : (x * y - a * a) * ((x * z - b * b) * (x * w - c * c) - (x * f - b * c) * (x * f - b * c)) - (x * d - a * b) * ((x * d - a * b) * (x * w - c * c) - (x * f - b * c) * (x * e - a * c)) + (x * e - a * c) * ((x * d - a * b) * (x * f - b * c) - (x * z - b * b) * (x * e - a * c)) = x * x * det4 x y z w a b c d e f := by
  unfold det4; grind
 rw [id] at k
 rcases sg_cases (det4 x y z w a b c d e f) with ⟨h, _⟩ | ⟨h, _⟩ | ⟨h, _⟩
 ·have := mul_neg_of (Rat.mul_pos x0 x0) h; grind
 ·rw [h] at k; grind
 ·exact h
theorem varP5 {a b c d e : Rat} (ha : 0 < a) (hb : 0 < b) (hc : 0 < c) (hd : 0 < d) (he : 0 < e) : var [a, b, c, d, e] = 0 := by
 rw [var_nz _ (by grind)]; simp [chg_cons, sgp ha, sgp hb, sgp hc, sgp hd, sgp he, chg]
theorem varN5 {a b c d e : Rat} (ha : 0 < a) (hb : b < 0) (hc : 0 < c) (hd : d < 0) (he : 0 < e) : var [a, b, c, d, e] = 4 := by
 rw [var_nz _ (by grind)]; simp [chg_cons, sgp ha, sg_neg hb, sgp hc, sg_neg hd, sgp he, chg]
def c1f (x y z w a b c d e f : Rat) : Rat := (y * (z * w - f * f) - d * (d * w - f * e) + e * (d * f - z * e)) + (x * (z * w - f * f) - b * (b * w - f * c) + c * (b * f - z * c)) + (x * (y * w - e * e) - a * (a * w - e * c) + c * (a * e - y * c)) + (x * (y * z - d * d) - a * (a * z - d * b) + b * (a * d - y * b))
theorem c1_pos {x y z w a b c d e f : Rat} (h1 : absR a + absR b + absR c < x) (h2 : absR a + absR d + absR e < y) (h3 : absR b + absR d + absR f < z) (h4 : absR c + absR e + absR f < w) : 0 < c1f x y z w a b c d e f := by
 have a0 := absR_nonneg a
 have b0 := absR_nonneg b
 have c0 := absR_nonneg c
 have d0 := absR_nonneg d
 have e0 := absR_nonneg e
 have f0 := absR_nonneg f
 have p1 := dd3 (x := y) (y := z) (z := w) (b := d) (c := e) (f := f) (by grind) (by grind) (by grind)
 have p2 := dd3 (x := x) (y := z) (z := w) (b := b) (c := c) (f := f) (by grind) (by grind) (by grind)
 have p3 := dd3 (x := x) (y := y) (z := w) (b := a) (c := c) (f := e) (by grind) (by grind) (by grind)
 have p4 := dd3 (x := x) (y := y) (z := z) (b := a) (c := b) (f := d) (by grind) (by grind) (by grind)
 unfold c1f; grind
def c2f (x y z w a b c d e f : Rat) : Rat := (x * y - a * a) + (x * z - b * b) + (x * w - c * c) + (y * z - d * d) + (y * w - e * e) + (z * w - f * f)
theorem c2_pos {x y z w a b c d e f : Rat} (h1 : absR a + absR b + absR c < x) (h2 : absR a + absR d + absR e < y) (h3 : absR b + absR d + absR f < z) (h4 : absR c + absR e + absR f < w) : 0 < c2f x y z w a b c d e f := by
 have a0 := absR_nonneg a
 have b0 := absR_nonneg b
 have c0 := absR_nonneg c
 have d0 := absR_nonneg d
 have e0 := absR_nonneg e
 have f0 := absR_nonneg f
 have p1 := dd2 (x := x) (y := y) (b := a) (by grind) (by grind)
 have p2 := dd2 (x := x) (y := z) (b := b) (by grind) (by grind)
 have p3 := dd2 (x := x) (y := w) (b := c) (by grind) (by grind)
 have p4 := dd2 (x := y) (y := z) (b := d) (by grind) (by grind)
 have p5 := dd2 (x := y) (y := w) (b := e) (by grind) (by grind)
 have p6 := dd2 (x := z) (y := w) (b := f) (by grind) (by grind)
 unfold c2f; grind
theorem char4 (a b c d e f g h i j : Rat) : charL [[a, b, c, d], [b, e, f, g], [c, f, h, i], [d, g, i, j]] = [det4 a e h j b c d f g i, -(c1f a e h j b c d f g i), c2f a e h j b c d f g i, -a - e - h - j, 1] := by
 rw [char4_1, char4_2, char4_3, char4_4]
 simp only [List.cons.injEq, and_true]
 refine ⟨?_, ?_, ?_⟩
 ·simp [dtm, gR, gM, det4]
 ·unfold c1f; grind
 ·unfold c2f; grind
theorem shift_char4 (E a b c d e f g h i j : Rat) : shiftL E (charL [[a, b, c, d], [b, e, f, g], [c, f, h, i], [d, g, i, j]]) = [det4 (E - a) (E - e) (E - h) (E - j) (-b) (-c) (-d) (-f) (-g) (-i), c1f (E - a) (E - e) (E - h) (E - j) (-b) (-c) (-d) (-f) (-g) (-i), c2f (E - a) (E - e) (E - h) (E - j) (-b) (-c) (-d) (-f) (-g) (-i), (E - a) + (E - e) + (E - h) + (E - j), 1] := by
 rw [char4, shift4]
 simp only [List.cons.injEq, and_true]
 refine ⟨?_, ?_, ?_, ?_⟩
 ·unfold det4 c1f c2f; grind
 ·unfold c1f c2f; grind
 ·unfold c2f; grind
 ·grind
theorem det4_neg (x y z w a b c d e f : Rat) : det4 (-x) (-y) (-z) (-w) a b c d e f = det4 x y z w (-a) (-b) (-c) (-d) (-e) (-f) := by unfold det4; grind
theorem c1f_neg (x y z w a b c d e f : Rat) : c1f (-x) (-y) (-z) (-w) a b c d e f = -(c1f x y z w (-a) (-b) (-c) (-d) (-e) (-f)) := by unfold c1f; grind
theorem c2f_neg (x y z w a b c d e f : Rat) : c2f (-x) (-y) (-z) (-w) a b c d e f = c2f x y z w (-a) (-b) (-c) (-d) (-e) (-f) := by unfold c2f; grind
theorem all4 {a b c d e f g h i j E : Rat} (h1 : absR a + absR b + absR c + absR d < E) (h2 : absR b + absR e + absR f + absR g < E) (h3 : absR c + absR f + absR h + absR i < E) (h4 : absR d + absR g + absR i + absR j < E) :
  var (shiftL E (charL [[a, b, c, d], [b, e, f, g], [c, f, h, i], [d, g, i, j]])) = 0 ∧ var (shiftL (-E) (charL [[a, b, c, d], [b, e, f, g], [c, f, h, i], [d, g, i, j]])) = 4 := by
 obtain ⟨a1, a2⟩ := absR_le a
 obtain ⟨e1, e2⟩ := absR_le e
 obtain ⟨i1, i2⟩ := absR_le h
 obtain ⟨j1, j2⟩ := absR_le j
 have b0 := absR_nonneg b
 have c0 := absR_nonneg c
 have d0 := absR_nonneg d
 have f0 := absR_nonneg f
 have g0 := absR_nonneg g
 have i0 := absR_nonneg i
 constructor
 ·rw [shift_char4]
  refine varP5 (dd4 ?_ ?_ ?_ ?_) (c1_pos ?_ ?_ ?_ ?_) (c2_pos ?_ ?_ ?_ ?_) (by grind) (by decide) <;> simp only [absR_neg] <;> grind
 ·rw [shift_char4, show -E - a = -(E + a) by grind, show -E - e = -(E + e) by grind, show -E - h = -(E + h) by grind, show -E - j = -(E + j) by grind, det4_neg, c1f_neg, c2f_neg]
  simp only [Rat.neg_neg]
  have q := c1_pos (x := E + a) (y := E + e) (z := E + h) (w := E + j) (a := b) (b := c) (c := d) (d := f) (e := g) (f := i) (by grind) (by grind) (by grind) (by grind)
  refine varN5 (dd4 ?_ ?_ ?_ ?_) (by grind) (c2_pos ?_ ?_ ?_ ?_) (by grind) (by decide) <;> grind
end Go.Proofs.YtldokelpolbnnaaGreatDoor
end
section
set_option linter.unusedVariables false
set_option linter.unusedSimpArgs false
namespace Go.Proofs.YtldokelpolbnnaaGreatDoor
end Go.Proofs.YtldokelpolbnnaaGreatDoor
end
section
set_option linter.unusedVariables false
set_option linter.unusedSimpArgs false
namespace Go.Proofs.YtldokelpolbnnaaGreatDoor
end Go.Proofs.YtldokelpolbnnaaGreatDoor
end
section
set_option linter.unusedVariables false
set_option linter.unusedSimpArgs false
namespace Go.Proofs.YtldokelpolbnnaaGreatDoor
end Go.Proofs.YtldokelpolbnnaaGreatDoor
end
section
set_option linter.unusedVariables false
set_option linter.unusedSimpArgs false
namespace Go.Proofs.YtldokelpolbnnaaGreatDoor
theorem sq0 (a : Rat) : 0 ≤ a * a := by
 rcases sg_cases a with ⟨h, _⟩ | ⟨h, _⟩ | ⟨h, _⟩
 ·have := Rat.mul_pos (show 0 < -a by grind) (show 0 < -a by grind); grind
 ·rw [h]; grind
 ·have := Rat.mul_pos h h; grind
end Go.Proofs.YtldokelpolbnnaaGreatDoor
end
section
set_option linter.unusedVariables false
set_option linter.unusedSimpArgs false
namespace Go.Proofs.YtldokelpolbnnaaGreatDoor
end Go.Proofs.YtldokelpolbnnaaGreatDoor
end
section
set_option linter.unusedVariables false
set_option linter.unusedSimpArgs false
namespace Go.Proofs.YtldokelpolbnnaaGreatDoor
theorem shift_x (h : Rat) (l : List Rat) (hl : l.length ≤ 4) (h0 : l ≠ []) : shiftL (-h) (0 :: l) = mulL h 0 (shiftL (-h) l) := by
 match l, hl, h0 with
 | [a], _, _ => rw [shift1, shift0]; simp [mulL]; grind
 | [a, b], _, _ => rw [shift2, shift1]; simp [mulL]; grind
 | [a, b, c], _, _ => rw [shift3, shift2]; simp [mulL]; grind
 | [a, b, c, d], _, _ => rw [shift4, shift3]; simp [mulL]; grind
theorem shift_same (l : List Rat) (hl : l.length ≤ 5) : shiftL 0 l = l := by
 match l, hl with
 | [], _ => rfl
 | [a], _ => rw [shift0]
 | [a, b], _ => rw [shift1]; simp; grind
 | [a, b, c], _ => rw [shift2]; simp; grind
 | [a, b, c, d], _ => rw [shift3]; simp; grind
 | [a, b, c, d, e], _ => rw [shift4]; simp; grind
theorem shift_one (x : Rat) (l : List Rat) (hl : l.length ≤ 5) (h1 : l.getLast? = some 1) : ∃ q ∈ shiftL x l, q ≠ 0 := by
 match l, hl with
 | [], _ => simp at h1
 | [a], _ => simp at h1; rw [shift0]; exact ⟨a, by simp, by rw [h1]; decide⟩
 | [a, b], _ => simp at h1; rw [shift1]; exact ⟨b, by simp, by rw [h1]; decide⟩
 | [a, b, c], _ => simp at h1; rw [shift2]; exact ⟨c, by simp, by rw [h1]; decide⟩
 | [a, b, c, d], _ => simp at h1; rw [shift3]; exact ⟨d, by simp, by rw [h1]; decide⟩
 | [a, b, c, d, e], _ => simp at h1; rw [shift4]; exact ⟨e, by simp, by rw [h1]; decide⟩
theorem zer_var {h : Rat} (hh : 0 < h) : ∀ l : List Rat, l.length ≤ 5 → l.getLast? = some 1 → zer l + var l ≤ var (shiftL (-h) l)
 | [], _, h1 => by simp at h1
 | q :: l, hl, h1 => by
  by_cases hq : q = 0
  ·subst hq
   have hne : l ≠ [] := by rintro rfl; simp at h1
   have h1' : l.getLast? = some 1 := by
    cases l with
    | nil => exact absurd rfl hne
    | cons x l => rw [← h1, List.getLast?_cons_cons]
   have hl' : l.length ≤ 4 := by simpa using hl
   have ih := zer_var hh l (by omega) h1'
   rw [shift_x h l hl' hne, var_zero]
   have := var_mul hh (shiftL (-h) l) (shift_one _ l (by omega) h1')
   simp only [zer, if_true]; omega
  ·have h2 := var_mono (x := -h) (y := 0) (by grind) (q :: l) hl
   rw [shift_same _ hl] at h2
   simp only [zer, if_neg hq]; omega
theorem shift_last1 (x : Rat) (l : List Rat) (hl : l.length ≤ 5) (h1 : l.getLast? = some 1) : (shiftL x l).getLast? = some 1 := by
 match l, hl with
 | [], _ => simp at h1
 | [a], _ => rw [shift0]; exact h1
 | [a, b], _ => rw [shift1]; simpa using h1
 | [a, b, c], _ => rw [shift2]; simpa using h1
 | [a, b, c, d], _ => rw [shift3]; simpa using h1
 | [a, b, c, d, e], _ => rw [shift4]; simpa using h1
theorem shift_len (x : Rat) (l : List Rat) (hl : l.length ≤ 5) : (shiftL x l).length = l.length := shiftGo_len x _ _ _
theorem var_strict {x y : Rat} (h : x < y) (p : List Rat) (hp : p.length ≤ 5) (h1 : p.getLast? = some 1) : zer (shiftL y p) + var (shiftL y p) ≤ var (shiftL x p) := by
 have hl := shift_len y p hp
 have := zer_var (h := y - x) (by grind) (shiftL y p) (by omega) (shift_last1 y p hp h1)
 rwa [shift_add _ _ _ hp, show y + -(y - x) = x by grind] at this
theorem less_mono {x y : Rat} (h : x ≤ y) (p : List Rat) (hp : p.length ≤ 5) (h1 : p.getLast? = some 1) : lessL p x ≤ lessL p y ∧ lessL p x + (equalL p x : Int) ≤ lessL p y + (equalL p y : Int) := by
 have hm := var_mono h p hp
 by_cases he : x = y
 ·subst he; exact ⟨Int.le_refl _, Int.le_refl _⟩
 ·have hs := var_strict (x := x) (y := y) (by grind) p hp h1
  unfold lessL equalL
  omega
theorem char_last1 (A : List (List Rat)) : (charL A).getLast? = some 1 := by
 have h := charGo_last A A.length A.length 1 (List.replicate A.length (List.replicate A.length 0)) [1] (by simp)
 rw [show charGo A A.length A.length 1 (List.replicate A.length (List.replicate A.length 0)) [1] = charL A from rfl] at h
 rw [h]; rfl
theorem far_of {p : List Rat} {x y : Rat} (h : x < y) (hp : p.length ≤ 5) (h1 : p.getLast? = some 1) (h0 : var (shiftL x p) = 0) : lessL p y = (p.length : Int) - 1 ∧ equalL p y = 0 := by
 have hs := var_strict h p hp h1
 unfold lessL equalL
 omega
theorem in_abs {q : Rat} (h : In 3 q) : absR q ≤ 3 := by have := h.abs; simpa using this
theorem far_all {A : List (List Rat)} {n : Nat} (hl : A.length = n) (h4 : n ≤ 4) (hT : ThinOK A n) (hs : ∀ i j, j < i → i < n → gR (gM A i) j = gR (gM A j) i) : lessL (charL A) 1000 = (n : Int) ∧ equalL (charL A) 1000 = 0 := by
 have hcl : (charL A).length = n + 1 := by rw [charL_length, hl]
 have hsq := thin_sq hl hT
 have key : var (shiftL 999 (charL A)) = 0 := by
  have hin : ∀ i j, i < n → j < n → absR (gR (gM A i) j) ≤ 3 := fun i j hi hj => by
   have h1 := hT i (by omega)
   exact in_abs (h1.2 _ (by unfold gR; rw [List.getD_eq_getElem?_getD, List.getElem?_eq_getElem (by omega)]; exact List.getElem_mem _)).in
  have nn : n = 0 ∨ n = 1 ∨ n = 2 ∨ n = 3 ∨ n = 4 := by omega
  have w0 : ∀ {p : List Rat} {k : Nat}, p.length ≤ 5 → withinL p (-999) 999 = (k : Int) → p.length = k + 1 → var (shiftL 999 p) = 0 := by
   intro p k hp h hk
   rw [within_var] at h
   have h2 : var (shiftL (-999) p) ≤ k := by
    have hsl := shift_len (-999) p hp
    cases hx : shiftL (-999) p with
    | nil => simp [var]
    | cons q l =>
     rw [hx] at hsl; simp at hsl
     rw [var_cons]
     split
     ·have := var_len l; omega
     ·have := chg_len l (sg q); omega
   omega
  rcases nn with rfl | rfl | rfl | rfl | rfl
  ·have : A = [] := List.eq_nil_of_length_eq_zero hl
   subst this; decide +kernel
  ·obtain ⟨a, rfl⟩ := sq1 hsq
   have ha := hin 0 0 (by omega) (by omega)
   simp [gM, gR] at ha
   exact w0 (k := 1) (by rw [hcl]; omega) (all1 (by grind)) hcl
  ·obtain ⟨a, b, c, d, rfl⟩ := sq2 hsq
   have e1 := hs 1 0 (by omega) (by omega)
   have h1 := hin 0 0 (by omega) (by omega); have h2 := hin 0 1 (by omega) (by omega); have h3 := hin 1 1 (by omega) (by omega)
   simp [gM, gR] at e1 h1 h2 h3
   subst e1
   exact w0 (k := 2) (by rw [hcl]; omega) (all2 (by grind) (by grind)) hcl
  ·obtain ⟨a, b, c, d, e, f, g, h, i, rfl⟩ := sq3 hsq
   have e1 := hs 1 0 (by omega) (by omega); have e2 := hs 2 0 (by omega) (by omega); have e3 := hs 2 1 (by omega) (by omega)
   have h1 := hin 0 0 (by omega) (by omega); have h2 := hin 0 1 (by omega) (by omega); have h3 := hin 0 2 (by omega) (by omega); have h4 := hin 1 1 (by omega) (by omega); have h5 := hin 1 2 (by omega) (by omega); have h6 := hin 2 2 (by omega) (by omega)
   simp [gM, gR] at e1 e2 e3 h1 h2 h3 h4 h5 h6
   subst e1 e2 e3
   exact w0 (k := 3) (by rw [hcl]; omega) (all3 (by grind) (by grind) (by grind)) hcl
  ·obtain ⟨a, b, c, d, e, f, g, h, i, j, k, l, m, n, o, p, rfl⟩ := sq4 hsq
   have e1 := hs 1 0 (by omega) (by omega); have e2 := hs 2 0 (by omega) (by omega); have e3 := hs 2 1 (by omega) (by omega)
   have e4 := hs 3 0 (by omega) (by omega); have e5 := hs 3 1 (by omega) (by omega); have e6 := hs 3 2 (by omega) (by omega)
   have h1 := hin 0 0 (by omega) (by omega); have h2 := hin 0 1 (by omega) (by omega); have h3 := hin 0 2 (by omega) (by omega); have h4 := hin 0 3 (by omega) (by omega); have h5 := hin 1 1 (by omega) (by omega)
   have h6 := hin 1 2 (by omega) (by omega); have h7 := hin 1 3 (by omega) (by omega); have h8 := hin 2 2 (by omega) (by omega); have h9 := hin 2 3 (by omega) (by omega); have h10 := hin 3 3 (by omega) (by omega)
   simp [gM, gR] at e1 e2 e3 e4 e5 e6 h1 h2 h3 h4 h5 h6 h7 h8 h9 h10
   subst e1 e2 e3 e4 e5 e6
   exact (all4 (by grind) (by grind) (by grind) (by grind)).1
 have := far_of (y := 1000) (by decide +kernel) (by rw [hcl]; omega) (char_last1 A) key
 rw [hcl] at this
 exact ⟨by rw [this.1]; omega, this.2⟩
theorem moves4 (a b c d f g h j k p x m : Rat) : shiftL (x + m) (charL [[a + m, b, c, d], [b, f + m, g, h], [c, g, j + m, k], [d, h, k, p + m]]) = shiftL x (charL [[a, b, c, d], [b, f, g, h], [c, g, j, k], [d, h, k, p]]) := by
 rw [shift_char4, shift_char4, show x + m - (a + m) = x - a by grind, show x + m - (f + m) = x - f by grind, show x + m - (j + m) = x - j by grind, show x + m - (p + m) = x - p by grind]
theorem moves_all {B : List (List Rat)} {n : Nat} (hB : SqN n B) (hs : ∀ i j, j < i → i < n → gR (gM B i) j = gR (gM B j) i) (h4 : n ≤ 4) (x m : Rat) : shiftL (x + m) (charL (mvM m B)) = shiftL x (charL B) := by
 by_cases h0 : n = 0
 ·subst h0
  have : B = [] := List.eq_nil_of_length_eq_zero hB.1
  subst this
  simp [mvM, charL, charGo, shift0]
 by_cases h3 : n ≤ 3
 ·rw [mv_mov m B n hB h0 h3]; exact moves B x m n hB h0 h3
 ·obtain rfl : n = 4 := by omega
  obtain ⟨a, b, c, d, e, f, g, h, i, j, k, l, m', n, o, p, rfl⟩ := sq4 hB
  have e1 := hs 1 0 (by omega) (by omega); have e2 := hs 2 0 (by omega) (by omega); have e3 := hs 2 1 (by omega) (by omega)
  have e4 := hs 3 0 (by omega) (by omega); have e5 := hs 3 1 (by omega) (by omega); have e6 := hs 3 2 (by omega) (by omega)
  simp [gM, gR] at e1 e2 e3 e4 e5 e6
  subst e1 e2 e3 e4 e5 e6
  have hm : mvM m [[a, e, i, m'], [e, f, j, n], [i, j, k, o], [m', n, o, p]] = [[a + m, e, i, m'], [e, f + m, j, n], [i, j, k + m, o], [m', n, o, p + m]] := by
   simp [mvM, gM, gR, List.range_succ]
  rw [hm]
  exact moves4 a e i m' f j n k o p x m
theorem moved_all {B : List (List Rat)} {n : Nat} (hB : SqN n B) (hs : ∀ i j, j < i → i < n → gR (gM B i) j = gR (gM B j) i) (h4 : n ≤ 4) (x m : Rat) : lessL (charL (mvM m B)) (x + m) = lessL (charL B) x ∧ equalL (charL (mvM m B)) (x + m) = equalL (charL B) x := by
 have hlen : (charL (mvM m B)).length = (charL B).length := by rw [charL_length, charL_length, mvM_length]
 unfold lessL equalL
 rw [moves_all hB hs h4]
 exact ⟨by rw [hlen], rfl⟩
theorem char_moved {B : List (List Rat)} {n : Nat} (hB : SqN n B) (hs : ∀ i j, j < i → i < n → gR (gM B i) j = gR (gM B j) i) (h4 : n ≤ 4) (m : Rat) : charL (mvM m B) = shiftL (-m) (charL B) := by
 have hl : (charL (mvM m B)).length ≤ 5 := by rw [charL_length, mvM_length, hB.1]; omega
 have h := moves_all hB hs h4 0 m
 rw [shift_same (charL B) (by rw [charL_length, hB.1]; omega)] at h
 rw [← h, shift_add _ _ _ hl, show 0 + m + -m = 0 by grind, shift_same _ hl]
theorem shift_sz {x : Rat} {p : List Rat} (hp : p.length ≤ 5) (h : SzL p 1) (hx : Sz x 1) : SzL (shiftL x p) 60 := by
 have s2 : Sz 2 1 := sz_one (z := 2) (by decide)
 have s3 : Sz 3 1 := sz_one (z := 3) (by decide)
 have s4 : Sz 4 1 := sz_one (z := 4) (by decide)
 have s6 : Sz 6 1 := sz_one (z := 6) (by decide)
 have xx := sz_mul2 hx hx
 have xxx := sz_mul2 xx hx
 have x4 := sz_mul2 xxx hx
 match p, hp with
 | [], _ => intro q hq; simp [shiftL, shiftGo] at hq
 | [a], _ =>
  rw [shift0]; intro q hq; simp at hq; subst hq; exact (h _ (by simp)).mono (by omega)
 | [a, b], _ =>
  have ha := h a (by simp); have hb := h b (by simp)
  rw [shift1]; intro q hq; simp at hq
  rcases hq with rfl | rfl
  ·exact (sz_add2 ha (sz_mul2 hx hb)).mono (by omega)
  ·exact hb.mono (by omega)
 | [a, b, c], _ =>
  have ha := h a (by simp); have hb := h b (by simp); have hc := h c (by simp)
  rw [shift2]; intro q hq; simp at hq
  rcases hq with rfl | rfl | rfl
  ·exact (sz_add2 (sz_add2 ha (sz_mul2 hx hb)) (sz_mul2 xx hc)).mono (by omega)
  ·exact (sz_add2 hb (sz_mul2 (sz_mul2 s2 hx) hc)).mono (by omega)
  ·exact hc.mono (by omega)
 | [a, b, c, d], _ =>
  have ha := h a (by simp); have hb := h b (by simp); have hc := h c (by simp); have hd := h d (by simp)
  rw [shift3]; intro q hq; simp at hq
  rcases hq with rfl | rfl | rfl | rfl
  ·exact (sz_add2 (sz_add2 (sz_add2 ha (sz_mul2 hx hb)) (sz_mul2 xx hc)) (sz_mul2 xxx hd)).mono (by omega)
  ·exact (sz_add2 (sz_add2 hb (sz_mul2 (sz_mul2 s2 hx) hc)) (sz_mul2 (sz_mul2 (sz_mul2 s3 hx) hx) hd)).mono (by omega)
  ·exact (sz_add2 hc (sz_mul2 (sz_mul2 s3 hx) hd)).mono (by omega)
  ·exact hd.mono (by omega)
 | [a, b, c, d, e], _ =>
  have ha := h a (by simp); have hb := h b (by simp); have hc := h c (by simp); have hd := h d (by simp); have he := h e (by simp)
  rw [shift4]; intro q hq; simp at hq
  rcases hq with rfl | rfl | rfl | rfl | rfl
  ·exact (sz_add2 (sz_add2 (sz_add2 (sz_add2 ha (sz_mul2 hx hb)) (sz_mul2 xx hc)) (sz_mul2 xxx hd)) (sz_mul2 x4 he)).mono (by omega)
  ·exact (sz_add2 (sz_add2 (sz_add2 hb (sz_mul2 (sz_mul2 s2 hx) hc)) (sz_mul2 (sz_mul2 (sz_mul2 s3 hx) hx) hd)) (sz_mul2 (sz_mul2 (sz_mul2 (sz_mul2 s4 hx) hx) hx) he)).mono (by omega)
  ·exact (sz_add2 (sz_add2 hc (sz_mul2 (sz_mul2 s3 hx) hd)) (sz_mul2 (sz_mul2 (sz_mul2 s6 hx) hx) he)).mono (by omega)
  ·exact (sz_add2 hd (sz_mul2 (sz_mul2 s4 hx) he)).mono (by omega)
  ·exact he.mono (by omega)
end Go.Proofs.YtldokelpolbnnaaGreatDoor
end
section
set_option linter.unusedVariables false
set_option linter.unusedSimpArgs false
namespace Go.Proofs.YtldokelpolbnnaaGreatDoor
theorem pos_of_mul {a b : Rat} (ha : 0 < a) (h : 0 < a * b) : 0 < b := by
 rcases sg_cases b with ⟨hb, _⟩ | ⟨hb, _⟩ | ⟨hb, _⟩
 ·have := mul_neg_of ha hb; grind
 ·rw [hb] at h; grind
 ·exact hb
def d2f (x y a : Rat) : Rat := x * y - a * a
def d3f (x y z a b d : Rat) : Rat := x * (y * z - d * d) - a * (a * z - d * b) + b * (a * d - y * b)
theorem pd2 {x y a : Rat} (h1 : 0 < x) (h2 : 0 < d2f x y a) : 0 < y := by
 have := sq0 a
 unfold d2f at h2
 exact pos_of_mul h1 (by grind)
theorem pd3 {x y z a b d : Rat} (h1 : 0 < x) (h2 : 0 < d2f x y a) (h3 : 0 < d3f x y z a b d) : 0 < y ∧ 0 < z ∧ 0 < d2f x z b ∧ 0 < d2f y z d := by
 have hy := pd2 h1 h2
 have k1 : d2f x y a * d2f x z b = x * d3f x y z a b d + (x * d - a * b) * (x * d - a * b) := by unfold d2f d3f; grind
 have k2 : d2f x y a * d2f y z d = y * d3f x y z a b d + (a * d - y * b) * (a * d - y * b) := by unfold d2f d3f; grind
 have p1 := Rat.mul_pos h1 h3
 have p2 := Rat.mul_pos hy h3
 have s1 := sq0 (x * d - a * b)
 have s2 := sq0 (a * d - y * b)
 have q1 : 0 < d2f x z b := pos_of_mul h2 (by grind)
 have q2 : 0 < d2f y z d := pos_of_mul h2 (by grind)
 exact ⟨hy, pd2 h1 q1, q1, q2⟩
theorem pd4 {x y z w a b c d e f : Rat} (h1 : 0 < x) (h2 : 0 < d2f x y a) (h3 : 0 < d3f x y z a b d) (h4 : 0 < det4 x y z w a b c d e f) :
  0 < x + y + z + w ∧ 0 < c2f x y z w a b c d e f ∧ 0 < c1f x y z w a b c d e f := by
 have i1 : d2f (d2f x y a) (d2f x z b) (x * d - a * b) = x * d3f x y z a b d := by unfold d2f d3f; grind
 have i2 : d3f (d2f x y a) (d2f x z b) (d2f x w c) (x * d - a * b) (x * e - a * c) (x * f - b * c) = x * x * det4 x y z w a b c d e f := by unfold d2f d3f det4; grind
 have i3 : d2f (d2f x y a) (d2f x w c) (x * e - a * c) = x * d3f x y w a c e := by unfold d2f d3f; grind
 have i4 : d2f (d2f x z b) (d2f x w c) (x * f - b * c) = x * d3f x z w b c f := by unfold d2f d3f; grind
 have g1 : 0 < d2f (d2f x y a) (d2f x z b) (x * d - a * b) := by rw [i1]; exact Rat.mul_pos h1 h3
 have g2 : 0 < d3f (d2f x y a) (d2f x z b) (d2f x w c) (x * d - a * b) (x * e - a * c) (x * f - b * c) := by rw [i2]; exact Rat.mul_pos (Rat.mul_pos h1 h1) h4
 obtain ⟨m13, m14, m124, m134⟩ := pd3 h2 g1 g2
 rw [i3] at m124
 rw [i4] at m134
 have n124 := pos_of_mul h1 m124
 have n134 := pos_of_mul h1 m134
 obtain ⟨py, pz, _, m23⟩ := pd3 h1 h2 h3
 obtain ⟨_, pw, _, m24⟩ := pd3 h1 h2 n124
 obtain ⟨_, _, _, m34⟩ := pd3 h1 m13 n134
 have i5 : d3f x y z a b d * d3f y z w d e f = d2f y z d * det4 x y z w a b c d e f + (a * (d * f - z * e) - y * (b * f - z * c) + d * (b * e - d * c)) * (a * (d * f - z * e) - y * (b * f - z * c) + d * (b * e - d * c)) := by unfold d2f d3f det4; grind
 have p5 := Rat.mul_pos m23 h4
 have s5 := sq0 (a * (d * f - z * e) - y * (b * f - z * c) + d * (b * e - d * c))
 have m234 : 0 < d3f y z w d e f := pos_of_mul h3 (by grind)
 have e2 : c2f x y z w a b c d e f = d2f x y a + d2f x z b + d2f x w c + d2f y z d + d2f y w e + d2f z w f := by unfold c2f d2f; grind
 have e1 : c1f x y z w a b c d e f = d3f y z w d e f + d3f x z w b c f + d3f x y w a c e + d3f x y z a b d := by unfold c1f d3f; grind
 exact ⟨by grind, by rw [e2]; grind, by rw [e1]; grind⟩
def q4 (x y z w a b c d e f p q r s : Rat) : Rat := p * (x * p + a * q + b * r + c * s) + q * (a * p + y * q + d * r + e * s) + r * (b * p + d * q + z * r + f * s) + s * (c * p + e * q + f * r + w * s)
def PDq (x y z w a b c d e f : Rat) : Prop := ∀ p q r s : Rat, ¬(p = 0 ∧ q = 0 ∧ r = 0 ∧ s = 0) → 0 < q4 x y z w a b c d e f p q r s
theorem PDq.minors {x y z w a b c d e f : Rat} (h : PDq x y z w a b c d e f) : 0 < x ∧ 0 < d2f x y a ∧ 0 < d3f x y z a b d ∧ 0 < det4 x y z w a b c d e f := by
 have h1 : 0 < x := by
  have := h 1 0 0 0 (by intro hh; exact absurd hh.1 (by decide))
  unfold q4 at this; grind
 have h2 : 0 < d2f x y a := by
  have := h (-a) x 0 0 (by intro hh; grind)
  have e : q4 x y z w a b c d e f (-a) x 0 0 = x * d2f x y a := by unfold q4 d2f; grind
  rw [e] at this
  exact pos_of_mul h1 this
 have h3 : 0 < d3f x y z a b d := by
  have := h (a * d - y * b) (a * b - x * d) (d2f x y a) 0 (by intro hh; grind)
  have e : q4 x y z w a b c d e f (a * d - y * b) (a * b - x * d) (d2f x y a) 0 = d2f x y a * d3f x y z a b d := by unfold q4 d2f d3f; grind
  rw [e] at this
  exact pos_of_mul h2 this
 refine ⟨h1, h2, h3, ?_⟩
 have hd : d3f x y z a b d = x * (y * z - d * d) - a * (a * z - d * b) + b * (a * d - y * b) := rfl
 obtain ⟨c1, e1⟩ : ∃ c1, c1 = -(a * (d * f - z * e) - y * (b * f - z * c) + d * (b * e - d * c)) := ⟨_, rfl⟩
 obtain ⟨c2, e2⟩ : ∃ c2, c2 = (x * (d * f - z * e) - a * (b * f - z * c) + b * (b * e - d * c)) := ⟨_, rfl⟩
 obtain ⟨c3, e3⟩ : ∃ c3, c3 = -(x * (y * f - d * e) - a * (a * f - d * c) + b * (a * e - y * c)) := ⟨_, rfl⟩
 have k1 : x * c1 + a * c2 + b * c3 + c * d3f x y z a b d = 0 := by rw [e1, e2, e3]; unfold d3f; grind
 have k2 : a * c1 + y * c2 + d * c3 + e * d3f x y z a b d = 0 := by rw [e1, e2, e3]; unfold d3f; grind
 have k3 : b * c1 + d * c2 + z * c3 + f * d3f x y z a b d = 0 := by rw [e1, e2, e3]; unfold d3f; grind
 have k4 : c * c1 + e * c2 + f * c3 + w * d3f x y z a b d = det4 x y z w a b c d e f := by rw [e1, e2, e3]; unfold d3f det4; grind
 have := h c1 c2 c3 (d3f x y z a b d) (by intro hh; grind)
 unfold q4 at this
 rw [k1, k2, k3, k4] at this
 exact pos_of_mul h3 (by grind)
end Go.Proofs.YtldokelpolbnnaaGreatDoor
end
section
set_option linter.unusedVariables false
set_option linter.unusedSimpArgs false
namespace Go.Proofs.YtldokelpolbnnaaGreatDoor
structure V4 where
 p : Rat
 q : Rat
 r : Rat
 s : Rat
structure M4 where
 x : Rat
 y : Rat
 z : Rat
 w : Rat
 a : Rat
 b : Rat
 c : Rat
 d : Rat
 e : Rat
 f : Rat
def V4.dot (u v : V4) : Rat := u.p * v.p + u.q * v.q + u.r * v.r + u.s * v.s
def V4.lin (i : Rat) (u : V4) (j : Rat) (v : V4) : V4 := ⟨i * u.p + j * v.p, i * u.q + j * v.q, i * u.r + j * v.r, i * u.s + j * v.s⟩
def M4.mv (A : M4) (u : V4) : V4 := ⟨A.x * u.p + A.a * u.q + A.b * u.r + A.c * u.s, A.a * u.p + A.y * u.q + A.d * u.r + A.e * u.s, A.b * u.p + A.d * u.q + A.z * u.r + A.f * u.s, A.c * u.p + A.e * u.q + A.f * u.r + A.w * u.s⟩
def M4.e1 (A : M4) : Rat := A.x + A.y + A.z + A.w
def M4.e2 (A : M4) : Rat := c2f A.x A.y A.z A.w A.a A.b A.c A.d A.e A.f
def M4.e3 (A : M4) : Rat := c1f A.x A.y A.z A.w A.a A.b A.c A.d A.e A.f
def M4.e4 (A : M4) : Rat := det4 A.x A.y A.z A.w A.a A.b A.c A.d A.e A.f
theorem dot_sym (A : M4) (u v : V4) : u.dot (A.mv v) = (A.mv u).dot v := by unfold V4.dot M4.mv; grind
theorem ch_p (A : M4) (u : V4) : (A.mv (A.mv (A.mv (A.mv u)))).p = A.e1 * (A.mv (A.mv (A.mv u))).p - A.e2 * (A.mv (A.mv u)).p + A.e3 * (A.mv u).p - A.e4 * u.p := by
 simp only [M4.mv, M4.e1, M4.e2, M4.e3, M4.e4, c2f, c1f, det4]; grind
theorem ch_q (A : M4) (u : V4) : (A.mv (A.mv (A.mv (A.mv u)))).q = A.e1 * (A.mv (A.mv (A.mv u))).q - A.e2 * (A.mv (A.mv u)).q + A.e3 * (A.mv u).q - A.e4 * u.q := by
 simp only [M4.mv, M4.e1, M4.e2, M4.e3, M4.e4, c2f, c1f, det4]; grind
theorem ch_r (A : M4) (u : V4) : (A.mv (A.mv (A.mv (A.mv u)))).r = A.e1 * (A.mv (A.mv (A.mv u))).r - A.e2 * (A.mv (A.mv u)).r + A.e3 * (A.mv u).r - A.e4 * u.r := by
 simp only [M4.mv, M4.e1, M4.e2, M4.e3, M4.e4, c2f, c1f, det4]; grind
theorem ch_s (A : M4) (u : V4) : (A.mv (A.mv (A.mv (A.mv u)))).s = A.e1 * (A.mv (A.mv (A.mv u))).s - A.e2 * (A.mv (A.mv u)).s + A.e3 * (A.mv u).s - A.e4 * u.s := by
 simp only [M4.mv, M4.e1, M4.e2, M4.e3, M4.e4, c2f, c1f, det4]; grind
theorem mv_lin (A : M4) (i j : Rat) (u v : V4) : A.mv (V4.lin i u j v) = V4.lin i (A.mv u) j (A.mv v) := by
 simp only [M4.mv, V4.lin, V4.mk.injEq]; refine ⟨?_, ?_, ?_, ?_⟩ <;> grind
theorem dot_lin (u v u' v' : V4) (i j k l : Rat) : (V4.lin i u j v).dot (V4.lin k u' l v') = i * k * u.dot u' + i * l * u.dot v' + j * k * v.dot u' + j * l * v.dot v' := by
 unfold V4.lin V4.dot; grind
theorem ch_vec (A : M4) (u : V4) : V4.lin A.e1 (A.mv (A.mv (A.mv u))) A.e3 (A.mv u) = V4.lin 1 (A.mv (A.mv (A.mv (A.mv u)))) 1 (V4.lin A.e2 (A.mv (A.mv u)) A.e4 u) := by
 have h1 := ch_p A u; have h2 := ch_q A u; have h3 := ch_r A u; have h4 := ch_s A u
 simp only [V4.lin, V4.mk.injEq]
 refine ⟨?_, ?_, ?_, ?_⟩ <;> grind
theorem V4.dot_comm (u v : V4) : u.dot v = v.dot u := by unfold V4.dot; grind
theorem V4.sq_nonneg (u : V4) : 0 ≤ u.dot u := by
 have h1 := sq0 u.p; have h2 := sq0 u.q; have h3 := sq0 u.r; have h4 := sq0 u.s
 unfold V4.dot; grind
def V4.nz (u : V4) : Prop := ¬(u.p = 0 ∧ u.q = 0 ∧ u.r = 0 ∧ u.s = 0)
theorem sq_pos {a : Rat} (h : a ≠ 0) : 0 < a * a := by
 rcases sg_cases a with ⟨h', _⟩ | ⟨h', _⟩ | ⟨h', _⟩
 ·have := Rat.mul_pos (show 0 < -a by grind) (show 0 < -a by grind); grind
 ·exact absurd h' h
 ·exact Rat.mul_pos h' h'
theorem V4.sq_pos {u : V4} (h : u.nz) : 0 < u.dot u := by
 have h1 := sq0 u.p; have h2 := sq0 u.q; have h3 := sq0 u.r; have h4 := sq0 u.s
 unfold V4.dot
 by_cases k1 : u.p = 0
 ·by_cases k2 : u.q = 0
  ·by_cases k3 : u.r = 0
   ·by_cases k4 : u.s = 0
    ·exact absurd ⟨k1, k2, k3, k4⟩ h
    ·have := Go.Proofs.YtldokelpolbnnaaGreatDoor.sq_pos k4; grind
   ·have := Go.Proofs.YtldokelpolbnnaaGreatDoor.sq_pos k3; grind
  ·have := Go.Proofs.YtldokelpolbnnaaGreatDoor.sq_pos k2; grind
 ·have := Go.Proofs.YtldokelpolbnnaaGreatDoor.sq_pos k1; grind
def M4.bet (A : M4) (u : V4) : V4 := V4.lin A.e1 (A.mv (A.mv u)) A.e3 u
theorem bet_pos {A : M4} (h1 : 0 < A.e1) (h2 : 0 < A.e2) (h3 : 0 < A.e3) (h4 : 0 < A.e4) {u : V4} (hu : u.nz) : 0 < (A.bet u).dot (A.mv (A.bet u)) := by
 have k : A.mv (A.bet u) = V4.lin A.e1 (A.mv (A.mv (A.mv u))) A.e3 (A.mv u) := by unfold M4.bet; rw [mv_lin]
 rw [k, ch_vec]
 have e : V4.lin A.e2 (A.mv (A.mv u)) A.e4 u = V4.lin A.e2 (A.mv (A.mv u)) A.e4 u := rfl
 unfold M4.bet
 rw [dot_lin]
 have f1 : (A.mv (A.mv u)).dot (A.mv (A.mv (A.mv (A.mv u)))) = (A.mv (A.mv (A.mv u))).dot (A.mv (A.mv (A.mv u))) := dot_sym A _ _
 have f2 : u.dot (A.mv (A.mv (A.mv (A.mv u)))) = (A.mv (A.mv u)).dot (A.mv (A.mv u)) := by rw [dot_sym, dot_sym]
 have f3 : (A.mv (A.mv u)).dot (V4.lin A.e2 (A.mv (A.mv u)) A.e4 u) = A.e2 * (A.mv (A.mv u)).dot (A.mv (A.mv u)) + A.e4 * (A.mv u).dot (A.mv u) := by
  have := dot_lin (A.mv (A.mv u)) (A.mv (A.mv u)) (A.mv (A.mv u)) u 1 0 A.e2 A.e4
  have g : (A.mv (A.mv u)).dot u = (A.mv u).dot (A.mv u) := by rw [V4.dot_comm, dot_sym]
  have z : V4.lin 1 (A.mv (A.mv u)) 0 (A.mv (A.mv u)) = A.mv (A.mv u) := by
   simp only [V4.lin]; cases (A.mv (A.mv u)); simp only [V4.mk.injEq]; refine ⟨?_, ?_, ?_, ?_⟩ <;> grind
  rw [z, g] at this
  rw [this]; grind
 have f4 : u.dot (V4.lin A.e2 (A.mv (A.mv u)) A.e4 u) = A.e2 * (A.mv u).dot (A.mv u) + A.e4 * u.dot u := by
  have := dot_lin u u (A.mv (A.mv u)) u 1 0 A.e2 A.e4
  have g : u.dot (A.mv (A.mv u)) = (A.mv u).dot (A.mv u) := dot_sym A _ _
  have z : V4.lin 1 u 0 u = u := by
   simp only [V4.lin]; cases u; simp only [V4.mk.injEq]; refine ⟨?_, ?_, ?_, ?_⟩ <;> grind
  rw [z, g] at this
  rw [this]; grind
 rw [f1, f2, f3, f4]
 have s0 := V4.sq_pos hu
 have s1 := V4.sq_nonneg (A.mv u)
 have s2 := V4.sq_nonneg (A.mv (A.mv u))
 have s3 := V4.sq_nonneg (A.mv (A.mv (A.mv u)))
 generalize (A.mv (A.mv (A.mv u))).dot (A.mv (A.mv (A.mv u))) = t3 at *
 generalize (A.mv (A.mv u)).dot (A.mv (A.mv u)) = t2 at *
 generalize (A.mv u).dot (A.mv u) = t1 at *
 generalize u.dot u = t0 at *
 have m1 : 0 ≤ A.e1 * t3 := Rat.mul_nonneg (by grind) s3
 have m2 : 0 ≤ A.e1 * (A.e2 * t2) := Rat.mul_nonneg (by grind) (Rat.mul_nonneg (by grind) s2)
 have m3 : 0 ≤ A.e1 * (A.e4 * t1) := Rat.mul_nonneg (by grind) (Rat.mul_nonneg (by grind) s1)
 have m4 : 0 ≤ A.e3 * t2 := Rat.mul_nonneg (by grind) s2
 have m5 : 0 ≤ A.e3 * (A.e2 * t1) := Rat.mul_nonneg (by grind) (Rat.mul_nonneg (by grind) s1)
 have m6 : 0 < A.e3 * (A.e4 * t0) := Rat.mul_pos h3 (Rat.mul_pos h4 s0)
 grind
def M4.B (A : M4) : M4 :=
  ⟨A.e1 * (A.x * A.x + A.a * A.a + A.b * A.b + A.c * A.c) + A.e3, A.e1 * (A.a * A.a + A.y * A.y + A.d * A.d + A.e * A.e) + A.e3, A.e1 * (A.b * A.b + A.d * A.d + A.z * A.z + A.f * A.f) + A.e3, A.e1 * (A.c * A.c + A.e * A.e + A.f * A.f + A.w * A.w) + A.e3,
   A.e1 * (A.x * A.a + A.a * A.y + A.b * A.d + A.c * A.e), A.e1 * (A.x * A.b + A.a * A.d + A.b * A.z + A.c * A.f), A.e1 * (A.x * A.c + A.a * A.e + A.b * A.f + A.c * A.w), A.e1 * (A.a * A.b + A.y * A.d + A.d * A.z + A.e * A.f), A.e1 * (A.a * A.c + A.y * A.e + A.d * A.f + A.e * A.w), A.e1 * (A.b * A.c + A.d * A.e + A.z * A.f + A.f * A.w)⟩
theorem B_mv (A : M4) (u : V4) : A.B.mv u = A.bet u := by
 unfold M4.B M4.bet
 generalize A.e1 = i
 generalize A.e3 = j
 simp only [M4.mv, V4.lin, V4.mk.injEq]
 refine ⟨?_, ?_, ?_, ?_⟩ <;> grind
def M4.PD (A : M4) : Prop := ∀ u : V4, u.nz → 0 < u.dot (A.mv u)
theorem M4.PD.pdq {A : M4} (h : A.PD) : PDq A.x A.y A.z A.w A.a A.b A.c A.d A.e A.f := fun p q r s hn => h ⟨p, q, r, s⟩ hn
theorem M4.PD.det {A : M4} (h : A.PD) : 0 < A.e4 := h.pdq.minors.2.2.2
theorem B_pd {A : M4} (h1 : 0 < A.e1) (h3 : 0 < A.e3) : A.B.PD := fun u hu => by
 rw [B_mv]
 have := dot_lin u u (A.mv (A.mv u)) u 1 0 A.e1 A.e3
 have g : u.dot (A.mv (A.mv u)) = (A.mv u).dot (A.mv u) := dot_sym A _ _
 have z : V4.lin 1 u 0 u = u := by
  simp only [V4.lin]; cases u; simp only [V4.mk.injEq]; refine ⟨?_, ?_, ?_, ?_⟩ <;> grind
 rw [z, g] at this
 unfold M4.bet
 rw [this]
 have m1 := Rat.mul_nonneg (show 0 ≤ A.e1 by grind) (V4.sq_nonneg (A.mv u))
 have m2 := Rat.mul_pos h3 (V4.sq_pos hu)
 grind
def M4.adj (A : M4) : M4 :=
  ⟨d3f A.y A.z A.w A.d A.e A.f, d3f A.x A.z A.w A.b A.c A.f, d3f A.x A.y A.w A.a A.c A.e, d3f A.x A.y A.z A.a A.b A.d,
   -(A.a * (A.z * A.w - A.f * A.f) - A.d * (A.b * A.w - A.f * A.c) + A.e * (A.b * A.f - A.z * A.c)),
   A.a * (A.d * A.w - A.f * A.e) - A.y * (A.b * A.w - A.f * A.c) + A.e * (A.b * A.e - A.d * A.c),
   -(A.a * (A.d * A.f - A.z * A.e) - A.y * (A.b * A.f - A.z * A.c) + A.d * (A.b * A.e - A.d * A.c)),
   -(A.x * (A.d * A.w - A.f * A.e) - A.a * (A.b * A.w - A.f * A.c) + A.c * (A.b * A.e - A.d * A.c)),
   A.x * (A.d * A.f - A.z * A.e) - A.a * (A.b * A.f - A.z * A.c) + A.b * (A.b * A.e - A.d * A.c),
   -(A.x * (A.y * A.f - A.d * A.e) - A.a * (A.a * A.f - A.d * A.c) + A.b * (A.a * A.e - A.y * A.c))⟩
theorem adj_mv (A : M4) (u : V4) : A.mv (A.adj.mv u) = V4.lin A.e4 u 0 u := by
 simp only [M4.mv, M4.adj, V4.lin, M4.e4, V4.mk.injEq]
 refine ⟨?_, ?_, ?_, ?_⟩ <;> (unfold d3f det4; grind)
theorem mv_zero (A : M4) {u : V4} (h : ¬ u.nz) : ¬ (A.mv u).nz := by
 unfold V4.nz at h ⊢
 have h' : u.p = 0 ∧ u.q = 0 ∧ u.r = 0 ∧ u.s = 0 := Classical.byContradiction h
 obtain ⟨h1, h2, h3, h4⟩ := h'
 intro hn
 apply hn
 simp only [M4.mv, h1, h2, h3, h4]
 refine ⟨?_, ?_, ?_, ?_⟩ <;> grind
theorem pd_of {A : M4} (h1 : 0 < A.e1) (h2 : 0 < A.e2) (h3 : 0 < A.e3) (h4 : 0 < A.e4) : A.PD := fun u hu => by
 have hB := (B_pd h1 h3).det
 have e := adj_mv A.B u
 have hnz : (A.B.adj.mv u).nz := by
  apply Classical.byContradiction
  intro h
  have := mv_zero A.B h
  rw [e] at this
  apply this
  intro hz
  apply hu
  simp only [V4.lin] at hz
  have hne : A.B.e4 ≠ 0 := by grind
  obtain ⟨z1, z2, z3, z4⟩ := hz
  have g : ∀ t : Rat, A.B.e4 * t + 0 * t = 0 → t = 0 := fun t ht => by
   have : A.B.e4 * t = 0 := by grind
   rcases Rat.mul_eq_zero.1 this with h | h
   ·exact absurd h hne
   ·exact h
  exact ⟨g _ z1, g _ z2, g _ z3, g _ z4⟩
 have := bet_pos h1 h2 h3 h4 hnz
 rw [← B_mv, e, mv_lin, dot_lin] at this
 have k : A.B.e4 * A.B.e4 * u.dot (A.mv u) + A.B.e4 * 0 * u.dot (A.mv u) + 0 * A.B.e4 * u.dot (A.mv u) + 0 * 0 * u.dot (A.mv u) = A.B.e4 * A.B.e4 * u.dot (A.mv u) := by grind
 rw [k] at this
 exact pos_of_mul (Rat.mul_pos hB hB) this
theorem minors_iff (x y z w a b c d e f : Rat) : (0 < x ∧ 0 < d2f x y a ∧ 0 < d3f x y z a b d ∧ 0 < det4 x y z w a b c d e f) ↔ (0 < x + y + z + w ∧ 0 < c2f x y z w a b c d e f ∧ 0 < c1f x y z w a b c d e f ∧ 0 < det4 x y z w a b c d e f) :=
  ⟨fun ⟨h1, h2, h3, h4⟩ => let ⟨k1, k2, k3⟩ := pd4 h1 h2 h3 h4; ⟨k1, k2, k3, h4⟩,
   fun ⟨h1, h2, h3, h4⟩ => (pd_of (A := ⟨x, y, z, w, a, b, c, d, e, f⟩) h1 h2 h3 h4).pdq.minors⟩
theorem minors_iff3 (x y z a b d : Rat) : (0 < x ∧ 0 < d2f x y a ∧ 0 < d3f x y z a b d) ↔ (0 < x + y + z ∧ 0 < d2f x y a + d2f x z b + d2f y z d ∧ 0 < d3f x y z a b d) := by
 constructor
 ·rintro ⟨h1, h2, h3⟩
  obtain ⟨k1, k2, k3, k4⟩ := pd3 h1 h2 h3
  exact ⟨by grind, by grind, h3⟩
 ·rintro ⟨h1, h2, h3⟩
  have := (minors_iff x y z 1 a b 0 d 0 0).2 ⟨by grind, by unfold d2f at h2; unfold c2f; grind, by unfold d2f at h2; unfold d3f at h3; unfold c1f; grind, by unfold d3f at h3; unfold det4; grind⟩
  exact ⟨this.1, this.2.1, this.2.2.1⟩
theorem minors_iff2 (x y a : Rat) : (0 < x ∧ 0 < d2f x y a) ↔ (0 < x + y ∧ 0 < d2f x y a) := by
 constructor
 ·rintro ⟨h1, h2⟩
  have := pd2 h1 h2
  exact ⟨by grind, h2⟩
 ·rintro ⟨h1, h2⟩
  have := (minors_iff3 x y 1 a 0 0).2 ⟨by grind, by unfold d2f at h2 ⊢; grind, by unfold d2f at h2; unfold d3f; grind⟩
  exact ⟨this.1, h2⟩
end Go.Proofs.YtldokelpolbnnaaGreatDoor
end
section
set_option linter.unusedVariables false
set_option linter.unusedSimpArgs false
namespace Go.Proofs.YtldokelpolbnnaaGreatDoor
def sumN : Nat → (Nat → Rat) → Rat
 | 0, _ => 0
 | n + 1, f => sumN n f + f n
theorem sumN_congr : ∀ (n : Nat) {f g : Nat → Rat}, (∀ k, k < n → f k = g k) → sumN n f = sumN n g
 | 0, _, _, _ => rfl
 | n + 1, f, g, h => by simp only [sumN]; rw [sumN_congr n (fun k hk => h k (by omega)), h n (by omega)]
theorem sumN_add : ∀ (n : Nat) (f g : Nat → Rat), sumN n (fun k => f k + g k) = sumN n f + sumN n g
 | 0, _, _ => by simp only [sumN]; grind
 | n + 1, f, g => by simp only [sumN]; rw [sumN_add n f g]; grind
theorem sumN_mul : ∀ (n : Nat) (a : Rat) (f : Nat → Rat), sumN n (fun k => a * f k) = a * sumN n f
 | 0, _, _ => by simp [sumN]
 | n + 1, a, f => by simp only [sumN]; rw [sumN_mul n a f]; grind
theorem sumN_zero : ∀ (n : Nat) {f : Nat → Rat}, (∀ k, k < n → f k = 0) → sumN n f = 0
 | 0, _, _ => rfl
 | n + 1, f, h => by simp only [sumN]; rw [sumN_zero n (fun k hk => h k (by omega)), h n (by omega)]; grind
theorem sumN_one : ∀ (n i : Nat) (f : Nat → Rat), i < n → sumN n (fun k => (if k = i then 1 else 0) * f k) = f i
 | 0, _, _, h => by omega
 | n + 1, i, f, h => by
  simp only [sumN]
  by_cases e : i = n
  ·subst e
   rw [sumN_zero i (fun k hk => by rw [if_neg (by omega)]; grind)]; simp; grind
  ·rw [sumN_one n i f (by omega), if_neg (by omega)]; grind
theorem sumN_cut {r : Nat} : ∀ (n : Nat) {f : Nat → Rat}, r ≤ n → (∀ k, r ≤ k → k < n → f k = 0) → sumN n f = sumN r f
  | 0, f, h, _ => by obtain rfl : r = 0 := by omega
                     rfl
  | n + 1, f, h, h0 => by
    by_cases e : r = n + 1
    · rw [e]
    · simp only [sumN]; rw [sumN_cut n (by omega) (fun k h1 h2 => h0 k h1 (by omega)), h0 n (by omega) (by omega)]; grind
def Sp (n w : Nat) (X : List (List Rat)) (v : Nat → Rat) : Prop := ∃ c : Nat → Rat, ∀ j, j < w → v j = sumN n fun k => c k * en X k j
theorem Sp.row {n w k : Nat} {X : List (List Rat)} (h : k < n) : Sp n w X (en X k) := ⟨fun i => if i = k then 1 else 0, fun j _ => (sumN_one n k (fun i => en X i j) h).symm⟩
theorem Sp.congr {n w : Nat} {X : List (List Rat)} {v v' : Nat → Rat} (h : Sp n w X v) (e : ∀ j, j < w → v' j = v j) : Sp n w X v' := by
 obtain ⟨c, hc⟩ := h
 exact ⟨c, fun j hj => (e j hj).trans (hc j hj)⟩
theorem Sp.lin {n w : Nat} {X : List (List Rat)} {v v' : Nat → Rat} (h : Sp n w X v) (h' : Sp n w X v') (a b : Rat) : Sp n w X (fun j => a * v j + b * v' j) := by
 obtain ⟨c, hc⟩ := h
 obtain ⟨d, hd⟩ := h'
 refine ⟨fun k => a * c k + b * d k, fun j hj => ?_⟩
 show a * v j + b * v' j = _
 rw [hc j hj, hd j hj, ← sumN_mul, ← sumN_mul, ← sumN_add]
 exact sumN_congr n (fun k _ => by grind)
theorem Sp.zero {n w : Nat} {X : List (List Rat)} {v : Nat → Rat} (h : ∀ j, j < w → v j = 0) : Sp n w X v :=
 ⟨fun _ => 0, fun j hj => by rw [h j hj, sumN_zero n (fun k _ => by grind)]⟩
theorem Sp.sum {n w : Nat} {Y : List (List Rat)} (g : Nat → Nat → Rat) (c : Nat → Rat) : ∀ (m : Nat), (∀ k, k < m → Sp n w Y (g k)) → Sp n w Y (fun j => sumN m fun k => c k * g k j)
 | 0, _ => Sp.zero (fun j _ => rfl)
 | m + 1, h => by
  have h1 := Sp.sum g c m (fun k hk => h k (by omega))
  exact (h1.lin (h m (by omega)) 1 (c m)).congr (fun j _ => by simp only [sumN]; grind)
theorem Sp.trans {n w : Nat} {X Y : List (List Rat)} (h : ∀ k, k < n → Sp n w Y (en X k)) {v : Nat → Rat} (hv : Sp n w X v) : Sp n w Y v := by
 obtain ⟨c, hc⟩ := hv
 exact (Sp.sum (en X) c n h).congr hc
def SpEq (n w : Nat) (X Y : List (List Rat)) : Prop := ∀ k, k < n → Sp n w Y (en X k) ∧ Sp n w X (en Y k)
theorem SpEq.refl (n w : Nat) (X : List (List Rat)) : SpEq n w X X := fun k hk => ⟨Sp.row hk, Sp.row hk⟩
theorem SpEq.trans {n w : Nat} {X Y Z : List (List Rat)} (h : SpEq n w X Y) (k : SpEq n w Y Z) : SpEq n w X Z := fun i hi =>
 ⟨Sp.trans (fun j hj => (k j hj).1) (h i hi).1, Sp.trans (fun j hj => (h j hj).2) (k i hi).2⟩
theorem spEq_swap {n w p r : Nat} {X : List (List Rat)} (h : Rec n w X) (hp : p < n) (hr : r < n) : SpEq n w X (swapL X p r) := fun k hk => by
 constructor
 ·by_cases e1 : k = r
  ·subst e1
   by_cases e2 : p = k
   ·exact (Sp.row (X := swapL X p k) (w := w) hk).congr (fun j _ => by rw [en_swap h hp hr]; simp [e2])
   ·exact (Sp.row (X := swapL X p k) (w := w) hp).congr (fun j _ => by rw [en_swap h hp hr]; simp [e2])
  ·by_cases e2 : k = p
   ·subst e2
    exact (Sp.row (X := swapL X k r) (w := w) hr).congr (fun j _ => by rw [en_swap h hp hr]; simp)
   ·exact (Sp.row (X := swapL X p r) (w := w) hk).congr (fun j _ => by rw [en_swap h hp hr]; simp [e1, e2])
 ·by_cases e1 : k = r
  ·exact (Sp.row (X := X) (w := w) hp).congr (fun j _ => by rw [en_swap h hp hr]; simp [e1])
  ·by_cases e2 : k = p
   ·exact (Sp.row (X := X) (w := w) hr).congr (fun j _ => by rw [en_swap h hp hr]; simp [e2]; intro e; rw [e])
   ·exact (Sp.row (X := X) (w := w) hk).congr (fun j _ => by rw [en_swap h hp hr]; simp [e1, e2])
theorem spEq_norm {n w r c : Nat} {X : List (List Rat)} (h : Rec n w X) (hr : r < n) (h0 : en X r c ≠ 0) : SpEq n w X (normX X r c) := fun k hk => by
 constructor
 ·refine ((Sp.row (X := normX X r c) (w := w) hk).lin (Sp.row hk) (if k = r then en X r c else 1) 0).congr (fun j _ => ?_)
  rw [en_norm h hr]
  by_cases e : k = r
  ·subst e; simp; grind
  ·simp [e]; grind
 ·refine ((Sp.row (X := X) (w := w) hk).lin (Sp.row hk) (if k = r then 1 / en X r c else 1) 0).congr (fun j _ => ?_)
  rw [en_norm h hr]
  by_cases e : k = r
  ·subst e; simp; grind
  ·simp [e]; grind
theorem spEq_clr {n w r c : Nat} {X : List (List Rat)} (h : Rec n w X) (hr : r < n) (hc : c < w) : SpEq n w X (clrGo r c n 0 X) := fun k hk => by
 have E := fun k j hj => en_clr hr hc n 0 X (by omega) h k j hj
 constructor
 ·refine ((Sp.row (X := clrGo r c n 0 X) (w := w) hk).lin (Sp.row hr) 1 (if k = r then 0 else en X k c)).congr (fun j hj => ?_)
  rw [E k j hj, E r j hj]
  by_cases e : k = r
  ·subst e; simp; grind
  ·simp [e, hk]; grind
 ·refine ((Sp.row (X := X) (w := w) hk).lin (Sp.row hr) 1 (if k = r then 0 else -(en X k c))).congr (fun j hj => ?_)
  rw [E k j hj]
  by_cases e : k = r
  ·subst e; simp; grind
  ·simp [e, hk]; grind
theorem spEq_step {n w r c p : Nat} {X : List (List Rat)} (h : Rec n w X) (hr : r < n) (hp : p < n) (hc : c < w) (h0 : en X p c ≠ 0) : SpEq n w X (stepX X r c p) := by
 unfold stepX
 rw [h.1]
 by_cases e : p = r
 ·subst e
  rw [if_pos rfl]
  exact (spEq_norm h hp h0).trans (spEq_clr (rec_norm h hp) hp hc)
 ·rw [if_neg e]
  have hs := rec_swap h hp hr
  have h0' : en (swapL X p r) r c ≠ 0 := by rw [en_swap h hp hr]; simpa using h0
  exact ((spEq_swap h hp hr).trans (spEq_norm hs hr h0')).trans (spEq_clr (rec_norm hs hr) hr hc)
theorem en_step {n w r c p : Nat} {X : List (List Rat)} (h : Rec n w X) (hr : r < n) (hp : p < n) (hc : c < w) (i j : Nat) (hi : i < n) (hj : j < w) :
  en (stepX X r c p) i j = if i = r then en X p j * (1 / en X p c) else (if i = p then en X r j - en X r c * (en X p j * (1 / en X p c)) else en X i j - en X i c * (en X p j * (1 / en X p c))) := by
 unfold stepX
 rw [h.1]
 by_cases e : p = r
 ·subst e
  rw [if_pos rfl, en_clr hp hc n 0 _ (by omega) (rec_norm h hp) i j hj, en_norm h hp, en_norm h hp, en_norm h hp]
  by_cases e1 : i = p
  ·subst e1; simp
  ·simp [e1, hi]
 ·rw [if_neg e]
  have hs := rec_swap h hp hr
  rw [en_clr hr hc n 0 _ (by omega) (rec_norm hs hr) i j hj, en_norm hs hr, en_norm hs hr, en_norm hs hr, en_swap h hp hr, en_swap h hp hr, en_swap h hp hr, en_swap h hp hr]
  by_cases e1 : i = r
  ·subst e1; simp
  ·by_cases e2 : i = p
   ·subst e2; simp [e1, hi]
   ·simp [e1, e2, hi]
structure Red (n w c : Nat) (P : List Nat) (X : List (List Rat)) : Prop where
 len : P.length ≤ n
 lt : ∀ l, l < P.length → P.getD l 0 < c
 up : ∀ l k, l < k → k < P.length → P.getD l 0 < P.getD k 0
 unit : ∀ l i, l < P.length → i < n → en X i (P.getD l 0) = if i = l then 1 else 0
 zero : ∀ i j, P.length ≤ i → i < n → j < c → en X i j = 0
theorem getD_snoc (P : List Nat) (c l : Nat) : (P ++ [c]).getD l 0 = if l < P.length then P.getD l 0 else if l = P.length then c else 0 := by
 simp only [List.getD_eq_getElem?_getD, List.getElem?_append]
 split
 ·rfl
 ·split
  ·rename_i h; subst h; simp
  ·rw [List.getElem?_eq_none (by simp; omega)]; rfl
theorem red_step {n w c p : Nat} {P : List Nat} {X : List (List Rat)} (h : Rec n w X) (hR : Red n w c P X) (hr : P.length < n) (hp : p < n) (hrp : P.length ≤ p) (hc : c < w) (h0 : en X p c ≠ 0) : Red n w (c + 1) (P ++ [c]) (stepX X P.length c p) := by
 have E := fun i j hi hj => en_step h hr hp hc i j hi hj
 refine ⟨by simp; omega, fun l hl => ?_, fun l k hlk hk => ?_, fun l i hl hi => ?_, fun i j h1 hi hj => ?_⟩
 ·rw [getD_snoc]
  split
  ·have := hR.lt l (by assumption); omega
  ·split <;> omega
 ·simp at hk
  rw [getD_snoc, getD_snoc, if_pos (by omega)]
  by_cases e : k < P.length
  ·rw [if_pos e]; exact hR.up l k hlk e
  ·rw [if_neg e, if_pos (by omega)]; exact hR.lt l (by omega)
 ·simp at hl
  rw [getD_snoc]
  by_cases e : l < P.length
  ·rw [if_pos e]
   have hlt := hR.lt l e
   rw [E i _ hi (by omega)]
   have zp : en X p (P.getD l 0) = 0 := hR.zero p _ hrp hp hlt
   have zr : en X P.length (P.getD l 0) = 0 := hR.zero _ _ (Nat.le_refl _) hr hlt
   rw [zp, zr]
   by_cases e1 : i = P.length
   ·rw [if_pos e1, if_neg (by omega)]; grind
   ·rw [if_neg e1]
    by_cases e2 : i = p
    ·rw [if_pos e2, if_neg (by omega)]; grind
    ·rw [if_neg e2, hR.unit l i e hi]; grind
  ·obtain rfl : l = P.length := by omega
   rw [if_neg e, if_pos rfl, E i c hi hc]
   by_cases e1 : i = P.length
   ·rw [if_pos e1, if_pos e1]; grind
   ·rw [if_neg e1, if_neg e1]
    have one : en X p c * (1 / en X p c) = 1 := by grind
    rw [one]
    split <;> grind
 ·simp at h1
  rw [E i j hi (by omega), if_neg (by omega)]
  by_cases e : j < c
  ·have zp : en X p j = 0 := hR.zero p _ hrp hp e
   have zr : en X P.length j = 0 := hR.zero _ _ (Nat.le_refl _) hr e
   have zi : en X i j = 0 := hR.zero i _ (by omega) hi e
   rw [zp, zr, zi]; split <;> grind
  ·obtain rfl : j = c := by omega
   have one : en X p j * (1 / en X p j) = 1 := by grind
   rw [one]
   split <;> grind
theorem elim_red {n w : Nat} {A : List (List Rat)} : ∀ f c P X d, c + f = w → Rec n w X → SpEq n w A X → Red n w c P X →
  Rec n w (elimGo f c P X d).2.1 ∧ SpEq n w A (elimGo f c P X d).2.1 ∧ ∃ c', Red n w c' (elimGo f c P X d).1 (elimGo f c P X d).2.1 ∧ c' ≤ w ∧ (c' = w ∨ (elimGo f c P X d).1.length = n)
 | 0, c, P, X, d, hc, h, hs, hR => ⟨h, hs, c, hR, by omega, Or.inl (by omega)⟩
 | f + 1, c, P, X, d, hc, h, hs, hR => by
  unfold elimGo
  by_cases hl : P.length < X.length
  ·rw [if_pos hl]
   obtain ⟨p1, p2⟩ := pivGo_le X c (X.length - P.length) P.length
   have p3 := pivGo_zero X c (X.length - P.length) P.length
   have p4 := pivGo_ne X c (X.length - P.length) P.length
   generalize pivGo X c (X.length - P.length) P.length = p at *
   have hX := h.1
   rw [hX] at hl p2 p4 ⊢
   by_cases e : p = n
   ·rw [if_pos e]
    refine elim_red f (c + 1) P X d (by omega) h hs ⟨hR.len, fun l hl => by have := hR.lt l hl; omega, hR.up, hR.unit, fun i j h1 h2 h3 => ?_⟩
    by_cases e' : j < c
    ·exact hR.zero i j h1 h2 e'
    ·obtain rfl : j = c := by omega
     exact p3 i h1 (by omega)
   ·rw [if_neg e]
    have h0 := p4 (by omega)
    exact elim_red f (c + 1) _ _ _ (by omega) (rec_step h hl (by omega)) (hs.trans (spEq_step h hl (by omega) (by omega) h0)) (red_step h hR hl (by omega) p1 (by omega) h0)
  ·rw [if_neg hl]
   have := h.1
   have := hR.len
   refine ⟨h, hs, c, hR, by omega, Or.inr ?_⟩
   show P.length = n
   omega
theorem elim_dne : ∀ f c P X d, d ≠ 0 → (∀ p, P.length ≤ p → True) → (elimGo f c P X d).2.2 ≠ 0
 | 0, c, P, X, d, hd, _ => hd
 | f + 1, c, P, X, d, hd, _ => by
  unfold elimGo
  split
  ·rename_i hl
   split
   ·exact elim_dne f _ _ _ _ hd (fun _ _ => trivial)
   ·rename_i hne
    have p2 := (pivGo_le X c (X.length - P.length) P.length).2
    have p4 := pivGo_ne X c (X.length - P.length) P.length (by omega)
    refine elim_dne f _ _ _ _ (fun e => ?_) (fun _ _ => trivial)
    rcases Rat.mul_eq_zero.1 e with e | e
    ·split at e
     ·exact hd e
     ·exact hd (by grind)
    ·exact p4 e
  ·exact hd
structure Elim (n : Nat) (A : List (List Rat)) (r : Nat) (P : Nat → Nat) (R : Nat → Nat → Rat) : Prop where
 le : r ≤ n
 lt : ∀ l, l < r → P l < n
 up : ∀ l k, l < k → k < r → P l < P k
 unit : ∀ l k, l < r → k < r → R k (P l) = if k = l then 1 else 0
 rows : ∀ i, i < n → ∃ c : Nat → Rat, ∀ j, j < n → en A i j = sumN r fun k => c k * R k j
 back : ∀ k, k < r → ∃ t : Nat → Rat, ∀ j, j < n → R k j = sumN n fun i => t i * en A i j
theorem elim_all {n : Nat} {A : List (List Rat)} (h : Rec n n A) : Elim n A (elimGo n 0 [] A 1).1.length (fun l => (elimGo n 0 [] A 1).1.getD l 0) (en (elimGo n 0 [] A 1).2.1) := by
 obtain ⟨h1, h2, c, h3, h4, h5⟩ := elim_red n 0 [] A 1 (by omega) h (SpEq.refl n n A) ⟨by simp, by simp, by simp, by simp, fun i j _ _ h => by omega⟩
 have hz : ∀ i j, (elimGo n 0 [] A 1).1.length ≤ i → i < n → j < n → en (elimGo n 0 [] A 1).2.1 i j = 0 := fun i j hi hn hj => by
  rcases h5 with h5 | h5
  ·exact h3.zero i j hi hn (by omega)
  ·omega
 refine ⟨h3.len, fun l hl => by have := h3.lt l hl; omega, h3.up, fun l k hl hk => h3.unit l k hl (by have := h3.len; omega), fun i hi => ?_, fun k hk => ?_⟩
 ·obtain ⟨c', hc'⟩ := (h2 i hi).1
  exact ⟨c', fun j hj => (hc' j hj).trans (sumN_cut n h3.len (fun k h1 h2 => by rw [hz k j h1 h2 hj]; grind))⟩
 ·obtain ⟨t, ht⟩ := (h2 k (by have := h3.len; omega)).2
  exact ⟨t, ht⟩
end Go.Proofs.YtldokelpolbnnaaGreatDoor
end
