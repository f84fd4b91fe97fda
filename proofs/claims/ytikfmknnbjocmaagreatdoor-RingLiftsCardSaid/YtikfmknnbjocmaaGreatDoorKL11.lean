/- Joined out of parts of one proof by a program: contracts of the functions that the statement reaches, and the plain facts behind them. -/
import Derived.Test.YtikfmknnbjocmaaGreatDoorKL10
set_option linter.unusedVariables false
set_option linter.unusedSimpArgs false
set_option linter.unusedSectionVars false
section
set_option linter.unusedSectionVars false
set_option linter.unusedVariables false
namespace Go.Proofs.YtikfmknnbjocmaaGreatDoor
open Go.RowKit Go.MapKept
def nmA (j : Nat) : List UInt8 := [97] ++ [letC j]
def nmR (j : Nat) : List UInt8 := [114] ++ [letC j]
theorem namesA {n : Nat} (h : n ≤ 6) : Names ((List.range n).map nmA) := by
  have h2 : ∀ n : Fin 7, (((List.range n.val).map nmA).all wordB && decide ((List.range n.val).map nmA).Nodup) = true := by decide +kernel
  exact names_of (h2 ⟨n, by omega⟩)
theorem namesR {n : Nat} (h : n ≤ 6) : Names ((List.range n).map nmR) := by
  have h2 : ∀ n : Fin 7, (((List.range n.val).map nmR).all wordB && decide ((List.range n.val).map nmR).Nodup) = true := by decide +kernel
  exact names_of (h2 ⟨n, by omega⟩)
structure TOK (T : List (List UInt8 × Nat)) : Prop where
  nm : T.map (·.1) = (List.range T.length).map nmA
  kd : ∀ a ∈ T, 1 ≤ a.2 ∧ a.2 ≤ 3
  le : T.length ≤ 6
theorem TOK.nil : TOK [] := ⟨rfl, fun a ha => by simp at ha, by simp⟩
theorem TOK.snoc {T : List (List UInt8 × Nat)} (h : TOK T) {k : Nat} (h1 : 1 ≤ k) (h3 : k ≤ 3) (hl : T.length < 6) : TOK (T ++ [(nmA T.length, k)]) := by
  refine ⟨?_, fun a ha => ?_, by simp; omega⟩
  · rw [List.map_append, h.nm, List.length_append, List.length_singleton, List.range_succ, List.map_append]; rfl
  · rcases List.mem_append.1 ha with e | e
    · exact h.kd a e
    · obtain rfl := List.mem_singleton.1 e
      exact ⟨h1, h3⟩
theorem TOK.att {T : List (List UInt8 × Nat)} (h : TOK T) : AttOK T := ⟨by rw [h.nm]; exact namesA h.le, h.kd⟩
structure LOK (l : List Nat) (n : Nat) : Prop where
  asc : l.Pairwise (· < ·)
  lt : ∀ a ∈ l, a < n
  len : l.length ≤ n
theorem LOK.nil : LOK [] 0 := ⟨List.Pairwise.nil, fun a ha => by simp at ha, by simp⟩
theorem LOK.up {l : List Nat} {n : Nat} (h : LOK l n) : LOK l (n + 1) := ⟨h.asc, fun a ha => by have := h.lt a ha; omega, by have := h.len; omega⟩
theorem LOK.snoc {l : List Nat} {n : Nat} (h : LOK l n) : LOK (l ++ [n]) (n + 1) := by
  refine ⟨List.pairwise_append.2 ⟨h.asc, List.pairwise_singleton _ _, fun a ha b hb => ?_⟩, fun a ha => ?_, by simp; have := h.len; omega⟩
  · obtain rfl := List.mem_singleton.1 hb
    exact h.lt a ha
  · rcases List.mem_append.1 ha with e | e
    · have := h.lt a e; omega
    · obtain rfl := List.mem_singleton.1 e; omega
theorem LOK.zero {n : Nat} (h : 0 < n) : LOK [0] n := ⟨List.pairwise_singleton _ _, fun a ha => by
  obtain rfl := List.mem_singleton.1 ha; exact h, by simp; omega⟩
structure ROK (u : PH) (n : Nat) (R : List SRel) : Prop where
  nm : R.map (·.1) = (List.range R.length).map nmR
  ne : ∀ r ∈ R, r.2.1 ≠ []
  ok : ∀ r ∈ R, LOK r.2.1 n
  all : ∀ a < n, ∃ r ∈ R, a ∈ r.2.1
  at' : ∀ r ∈ R, ListP u (.slice r.2.2.1 r.2.1.length r.2.2.2) 1 (intsV r.2.1)
theorem ROK.nil {u : PH} : ROK u 0 [] := ⟨rfl, fun a ha => by simp at ha, fun a ha => by simp at ha, fun a ha => by omega, fun a ha => by simp at ha⟩
theorem ROK.mono {u u' : PH} {n : Nat} {R : List SRel} (h : ROK u n R) (hl : PH.le u u') : ROK u' n R := ⟨h.nm, h.ne, h.ok, h.all, fun r hr => (h.at' r hr).mono hl⟩
theorem ROK.snoc {u : PH} {n n' : Nat} {R : List SRel} (h : ROK u n R) (hn : n ≤ n') {l : List Nat} {a : Option Addr} {c : Nat} (hl : LOK l n') (hne : l ≠ []) (hall : ∀ a, n ≤ a → a < n' → a ∈ l) (hat : ListP u (.slice a l.length c) 1 (intsV l)) : ROK u n' (R ++ [(nmR R.length, l, (a, c))]) := by
  refine ⟨?_, fun r hr => ?_, fun r hr => ?_, fun a ha => ?_, fun r hr => ?_⟩
  · rw [List.map_append, h.nm, List.length_append, List.length_singleton, List.range_succ, List.map_append]; rfl
  · rcases List.mem_append.1 hr with e | e
    · exact h.ne r e
    · obtain rfl := List.mem_singleton.1 e
      exact hne
  · rcases List.mem_append.1 hr with e | e
    · have := h.ok r e
      exact ⟨this.asc, fun a ha => by have := this.lt a ha; omega, by have := this.len; omega⟩
    · obtain rfl := List.mem_singleton.1 e
      exact hl
  · rcases Nat.lt_or_ge a n with e | e
    · obtain ⟨r, hr, hm⟩ := h.all a e
      exact ⟨r, List.mem_append_left _ hr, hm⟩
    · exact ⟨_, List.mem_append_right _ (List.mem_singleton.2 rfl), hall a e ha⟩
  · rcases List.mem_append.1 hr with e | e
    · exact h.at' r e
    · obtain rfl := List.mem_singleton.1 e
      exact hat
theorem ROK.rel {u : PH} {n : Nat} {R : List SRel} (h : ROK u n R) (hn : n ≤ 6) (hR : R.length ≤ 6) : RelOK u n R := by
  refine ⟨by rw [h.nm]; exact namesR hR, h.ne, fun r hr => (h.ok r hr).lt, fun r hr => by have := (h.ok r hr).len; omega, fun r hr k x y hx hy => ?_, h.all, h.at'⟩
  obtain ⟨h1, rfl⟩ := List.getElem?_eq_some_iff.1 hx
  obtain ⟨h2, rfl⟩ := List.getElem?_eq_some_iff.1 hy
  exact List.pairwise_iff_getElem.1 (h.ok r hr).asc k (k + 1) h1 h2 (by omega)
structure FOK (T : List (List UInt8 × Nat)) (F : List Feat) (lab : Int) (a : Nat) : Prop where
  feat : FeatOK T F lab
  lt : ∀ f ∈ F, f.1 < a
  len : F.length ≤ a
  l1 : -1 ≤ lab
  l2 : ∀ l : Nat, lab = (l : Int) → l < a ∧ ∃ n, T[l]? = some (n, 2)
theorem FOK.nil {T : List (List UInt8 × Nat)} : FOK T [] (-1) 0 := ⟨⟨fun f hf => by simp at hf, by simp⟩, fun f hf => by simp at hf, by simp, by omega, fun l hl => by omega⟩
theorem FOK.skip {T : List (List UInt8 × Nat)} {F : List Feat} {lab : Int} {a : Nat} (h : FOK T F lab a) : FOK T F lab (a + 1) := ⟨h.feat, fun f hf => by have := h.lt f hf; omega, by have := h.len; omega, h.l1, fun l hl => by
  obtain ⟨h1, h2⟩ := h.l2 l hl
  exact ⟨by omega, h2⟩⟩
theorem FOK.lab {T : List (List UInt8 × Nat)} {F : List Feat} {lab : Int} {a : Nat} {n : List UInt8} (h : FOK T F lab a) (ha : T[a]? = some (n, 2)) : FOK T F (a : Int) (a + 1) := by
  refine ⟨⟨fun f hf => ?_, h.feat.nodup⟩, fun f hf => by have := h.lt f hf; omega, by have := h.len; omega, by omega, fun l hl => ?_⟩
  · obtain ⟨n, k, h1, h2, h3⟩ := h.feat.ok f hf
    exact ⟨n, k, h1, h2, by have := h.lt f hf; omega⟩
  · obtain rfl : l = a := by omega
    exact ⟨by omega, n, ha⟩
theorem FOK.put {T : List (List UInt8 × Nat)} {F : List Feat} {lab : Int} {a k : Nat} {n : List UInt8} {g : Nat × Nat} (h : FOK T F lab a) (ha : T[a]? = some (n, k)) (hg : (g.1 = 1 ∧ k = 2 ∧ g.2 ≤ 1) ∨ (g.1 = 2 ∧ k = 3 ∧ g.2 = 0)) : FOK T (F ++ [(a, g)]) lab (a + 1) := by
  refine ⟨⟨fun f hf => ?_, ?_⟩, fun f hf => ?_, by simp; have := h.len; omega, h.l1, fun l hl => ?_⟩
  · rcases List.mem_append.1 hf with e | e
    · exact h.feat.ok f e
    · obtain rfl := List.mem_singleton.1 e
      refine ⟨n, k, ha, hg, fun e => ?_⟩
      have := (h.l2 a e.symm).1
      omega
  · rw [List.map_append]
    refine List.nodup_append.2 ⟨h.feat.nodup, by simp, fun x hx y hy => ?_⟩
    obtain ⟨f, hf, rfl⟩ := List.mem_map.1 hx
    have := h.lt f hf
    simp at hy
    omega
  · rcases List.mem_append.1 hf with e | e
    · have := h.lt f e; omega
    · obtain rfl := List.mem_singleton.1 e
      show a < a + 1
      omega
  · obtain ⟨h1, h2⟩ := h.l2 l hl
    exact ⟨by omega, h2⟩
theorem sch_ok {u : PH} {T : List (List UInt8 × Nat)} {R : List SRel} {F : List Feat} {lab : Int} (hT : TOK T) (hR : ROK u T.length R) (hF : FOK T F lab T.length) (h0 : 0 < T.length) (h1 : 0 < R.length) (h2 : R.length ≤ 6) : SchOK u T R F lab :=
  ⟨hT.att, hR.rel hT.le h2, hF.feat, h0, by have := hT.le; omega, h1, h2, by have := hF.len; have := hT.le; omega, hF.l1, fun l hl => (hF.l2 l hl).2⟩
def aArr (a : Option Addr) (c : Nat) (T : List (List UInt8 × Nat)) : Arr := ⟨.slice a T.length c, 77, 2, T.map attV⟩
def rArr (a : Option Addr) (c : Nat) (R : List SRel) : Arr := ⟨.slice a R.length c, 79, 2, R.map relV⟩
def fArr (a : Option Addr) (c : Nat) (F : List Feat) : Arr := ⟨.slice a F.length c, 50, 3, F.map featV⟩
def iArr (a : Option Addr) (c : Nat) (l : List Nat) : Arr := ⟨.slice a l.length c, 3, 1, intsV l⟩
theorem aArr_at {a : Option Addr} {c : Nat} {T : List (List UInt8 × Nat)} {m0 m : PH} : (aArr a c T).At m0 m = ArrAt m0 m (.slice a T.length c) 77 2 (T.map attV) := rfl
theorem rArr_at {a : Option Addr} {c : Nat} {R : List SRel} {m0 m : PH} : (rArr a c R).At m0 m = ArrAt m0 m (.slice a R.length c) 79 2 (R.map relV) := rfl
theorem fArr_at {a : Option Addr} {c : Nat} {F : List Feat} {m0 m : PH} : (fArr a c F).At m0 m = ArrAt m0 m (.slice a F.length c) 50 3 (F.map featV) := rfl
theorem iArr_at {a : Option Addr} {c : Nat} {l : List Nat} {m0 m : PH} : (iArr a c l).At m0 m = ArrAt m0 m (.slice a l.length c) 3 1 (intsV l) := rfl
theorem attV_ok (x : List UInt8 × Nat) : ElsOK 2 [attV x] := by
  intro e he
  simp at he; subst he
  exact ⟨rfl, fun y hy => by simp [attV, Value.cells] at hy; rcases hy with rfl | rfl <;> rfl⟩
theorem relV_ok (x : SRel) : ElsOK 2 [relV x] := by
  intro e he
  simp at he; subst he
  exact ⟨rfl, fun y hy => by simp [relV, Value.cells] at hy; rcases hy with rfl | rfl <;> rfl⟩
theorem featV_ok (x : Feat) : ElsOK 3 [featV x] := by
  intro e he
  simp at he; subst he
  exact ⟨rfl, fun y hy => by simp [featV, Value.cells] at hy; rcases hy with rfl | rfl | rfl <;> rfl⟩
end Go.Proofs.YtikfmknnbjocmaaGreatDoor
end
section
set_option linter.unusedSectionVars false
set_option linter.unusedVariables false
namespace Go.Proofs.YtikfmknnbjocmaaGreatDoor
open Go.RowKit Go.MapKept
theorem assoc_putK {κ : Type} [DecidableEq κ] {a b : κ} {x : Value} : ∀ l : List (κ × Value), assoc b (putK a x l) = if b = a then some x else assoc b l
  | [] => rfl
  | (c, v) :: l => by
    unfold putK
    by_cases h : a = c
    · subst h
      rw [if_pos rfl]
      unfold assoc
      by_cases e : b = a
      · rw [if_pos e, if_pos e]
      · rw [if_neg e, if_neg e, if_neg e]
    · rw [if_neg h]
      unfold assoc
      by_cases e : b = c
      · rw [if_pos e, if_pos e, if_neg (fun e' => h (by rw [← e', e]))]
      · rw [if_neg e, if_neg e]
        exact assoc_putK l
theorem ArrAt.base {m0 m : PH} {v : Value} {t : TypeId} {sz : Nat} {es : List Value} {b : Nat} {o : Obj} (h : ArrAt m0 m v t sz es) (hb : m0 b ≠ none) : ArrAt (m0.upd b o) (m.upd b o) v t sz es := by
  obtain ⟨ho, h⟩ := h
  rcases h with ⟨h1, h2, rfl⟩ | ⟨g, cap, rest, h1, rfl, h2, h3, h4, h5⟩
  · exact ⟨ho, .inl ⟨h1, h2, rfl⟩⟩
  · have hne : g ≠ b := fun e => by subst e; exact hb h1
    exact ⟨ho, .inr ⟨g, cap, rest, by rw [upd_ne _ _ hne]; exact h1, upd_comm _ _ _ hne, h2, h3, h4, h5⟩⟩
theorem ArrAt.see {m0 m : PH} {v : Value} {t : TypeId} {sz : Nat} {es : List Value} {b : Nat} {o : Obj} (h : ArrAt m0 m v t sz es) (hb : m0 b = some o) : m b = some o := h.le b o hb
theorem elP_of {m : PH} {b : Nat} {t : TypeId} {xs : List Value} {e : Value} (hm : m b = some (.cells xs.toArray t (0, 0))) (he : e.cells = xs.toArray) : ElP m b 0 e := fun i x hx => by
  refine ⟨_, _, _, hm, ?_⟩
  rw [he] at hx
  simpa using hx
def PutI (m : PH) (bn bl g : Nat) (E : List (Par × Rat)) : Prop := ∃ (a : Option Addr) (c : Nat) (m0 : PH) (o : Obj) (lk : List (Par × Value)),
  m0 bn = some (.cells #[.map (some g)] 40 (0, 0)) ∧ m0 bl = some (.cells #[.slice a E.length c] 41 (0, 0)) ∧ m0 g = some o ∧ MapO parV o lk ∧
  (∀ x ∈ E, assoc x.1 lk = some (.string (mkS (ratT x.2)))) ∧ ArrAt m0 m (.slice a E.length c) 43 2 (E.map fun x => parV x.1)
theorem parV_ok (p : Par) : ElsOK 2 [parV p] := by
  intro e he
  simp at he; subst he
  exact ⟨rfl, fun y hy => by simp [parV, Value.cells] at hy; rcases hy with rfl | rfl <;> rfl⟩
set_option maxHeartbeats 1000000 in
theorem put0 {u m : PH} {bn bl g : Nat} {E : List (Par × Rat)} {x : Par × Rat} (h : PutI m bn bl g E) (hl : E.length ≤ 1000) (hu : ∀ y ∈ E, y.1 = x.1 → y = x) :
    Contract Tryz.prog 13 [parV x.1, .string (mkS (ratT x.2)), .pointer (some ⟨bn, 0, none⟩), .pointer (some ⟨bl, 0, none⟩)] u m fun v _ m' => v = .tuple #[] ∧ PutI m' bn bl g (E ++ [x]) := by
  obtain ⟨a, c, m0, o, lk, hn, hb, hg, ho, hlk, harr⟩ := h
  have ne1 : bn ≠ bl := fun e => by rw [e, hb] at hn; simp at hn
  have hmo : ∃ es cl, o = .map es cl := by obtain ⟨es, cl, e, _⟩ := ho; exact ⟨es, cl, e⟩
  have ne2 : bn ≠ g := fun e => by
    obtain ⟨es, cl, rfl⟩ := hmo
    rw [e, hg] at hn; simp at hn
  have ne3 : bl ≠ g := fun e => by
    obtain ⟨es, cl, rfl⟩ := hmo
    rw [e, hg] at hb; simp at hb
  refine Contract.of Tryz.func13 (by kernel_rfl) (by kernel_rfl) ?_
  refine G.loadM none bn 0 (.map (some g)) (by kernel_rfl) (by kernel_rfl) (elP_of (xs := [.map (some g)]) (harr.see hn) rfl) ?_
  refine G.mapPut (et := 34) keyPar g o lk x.1 (.string (mkS (ratT x.2))) (by kernel_rfl) (by kernel_rfl) (harr.see hg) ho ?_
  intro o' ho'
  have harr1 := harr.base (b := g) (o := o') (by rw [hg]; simp)
  have hb1 : (m0.upd g o') bl = some (.cells #[.slice a E.length c] 41 (0, 0)) := by rw [upd_ne _ _ ne3]; exact hb
  refine G.loadM none bl 0 (.slice a E.length c) (by kernel_rfl) (by kernel_rfl) (elP_of (xs := [.slice a E.length c]) (harr1.see hb1) rfl) ?_
  refine G.buildU 43 2 24 (.agg #[.int .i64 0, .string (mkS [])]) [.agg #[.int .i64 x.1.1, .string (mkS x.1.2)]] (by kernel_rfl) (parV_ok x.1) rfl (by omega) (by simp) (by simp) ?_
  intro g1 u1 l1 e1
  refine G.append 43 2 24 (.agg #[.int .i64 0, .string (mkS [])]) (m0.upd g o') (E.map fun x => parV x.1) [.agg #[.int .i64 x.1.1, .string (mkS x.1.2)]] (.slice a E.length c) g1 0 1 1 (by kernel_rfl) rfl rfl (by omega) harr1 e1 (parV_ok x.1) rfl (by omega) (by simp; omega) (by simp; omega) ?_
  intro v2 m2 harr2
  rw [show (E.map fun x => parV x.1) ++ [.agg #[.int .i64 x.1.1, .string (mkS x.1.2)]] = (E ++ [x]).map fun x => parV x.1 by rw [List.map_append]; rfl] at harr2
  obtain ⟨a2, c2, rfl⟩ := harr2.shape
  rw [List.length_map] at harr2 ⊢
  refine G.storeM 1 bl 0 41 [.slice a E.length c] (.slice a2 (E ++ [x]).length c2) (by kernel_rfl) (harr2.see hb1) (fun y hy => by simp at hy; subst hy; rfl) (by simp) rfl rfl ?_
  have harr3 := harr2.base (b := bl) (o := .cells #[.slice a2 (E ++ [x]).length c2] 41 (0, 0)) (by rw [hb1]; simp)
  refine G.ret (.tuple #[]) (by kernel_rfl) ⟨rfl, a2, c2, _, o', putK x.1 (.string (mkS (ratT x.2))) lk, ?_, upd_same _ _ _, ?_, ho', fun y hy => ?_, harr3⟩
  · rw [upd_ne _ _ ne1, upd_ne _ _ ne2]; exact hn
  · rw [upd_ne _ _ ne3.symm, upd_same]
  · rw [assoc_putK]
    by_cases e : y.1 = x.1
    · rw [if_pos e]
      rcases List.mem_append.1 hy with hy | hy
      · rw [hu y hy e]
      · rw [List.mem_singleton.1 hy]
    · rw [if_neg e]
      rcases List.mem_append.1 hy with hy | hy
      · exact hlk y hy
      · exact absurd (by rw [List.mem_singleton.1 hy]) e
end Go.Proofs.YtikfmknnbjocmaaGreatDoor
end
section
set_option linter.unusedSectionVars false
set_option linter.unusedVariables false
namespace Go.Proofs.YtikfmknnbjocmaaGreatDoor
variable [Flag]
open Go.RowKit
section
variable {P : Program} {id : Nat} {ops : Array Oper} {dr : Bool} {Fin : S → PH → PH → Prop} {c : Cx} {Q : Exit → Act → World → Prop}
theorem Ob.append {l2 : List Nat} : ∀ {l1 : List Nat} {s : S} {u m : PH}, Ob P id ops dr (fun s u m => Ob P id ops dr Fin l2 s u m) l1 s u m → Ob P id ops dr Fin (l1 ++ l2) s u m
  | [], s, u, m, h => by
    cases h with
    | nil h => exact h
  | i :: l1, s, u, m, h => by
    cases h with
    | auto ho hg hd he hl => exact .auto ho hg hd he hl.append
    | skip ho hg hd hl => exact .skip ho hg hd hl.append
    | ask ho hg hd hv hs hw hl => exact .ask ho hg hd hv hs hw hl.append
    | big ho hg hd hv hs hf hk hw hl => exact .big ho hg hd hv hs hf hk hw fun v u' m' h1 h2 => (hl v u' m' h1 h2).append
theorem Ob.fin {Fin' : S → PH → PH → Prop} (hf : ∀ s u m, Fin s u m → Fin' s u m) : ∀ {l : List Nat} {s : S} {u m : PH}, Ob P id ops dr Fin l s u m → Ob P id ops dr Fin' l s u m
  | [], s, u, m, h => by
    cases h with
    | nil h => exact .nil (hf _ _ _ h)
  | i :: l1, s, u, m, h => by
    cases h with
    | auto ho hg hd he hl => exact .auto ho hg hd he (hl.fin hf)
    | skip ho hg hd hl => exact .skip ho hg hd (hl.fin hf)
    | ask ho hg hd hv hs hw hl => exact .ask ho hg hd hv hs hw (hl.fin hf)
    | big ho hg hd hv hs hf' hk hw hl => exact .big ho hg hd hv hs hf' hk hw fun v u' m' h1 h2 => (hl v u' m' h1 h2).fin hf
structure Left (ops : Array Oper) (listed : Array Bool) (T : List Nat) : Prop where
  sz : listed.size = ops.size
  mem : ∀ i, i < ops.size → (listed.getD i true = false ↔ i ∈ T)
  lt : ∀ i ∈ T, i < ops.size
  nd : T.Nodup
  cl : Closed ops listed
theorem ready_iff {listed : Array Bool} {i : Nat} : i ∈ Region.ready .any ops listed ↔ i < ops.size ∧ listed.getD i true = false ∧ ∃ o, ops[i]? = some o ∧ ∀ e ∈ o.after, Region.binds .any e = true → listed.getD e.on false = true := by
  simp only [Region.ready, List.mem_filter, List.mem_range, Bool.and_eq_true, Bool.not_eq_true']
  refine and_congr_right fun hi => and_congr_right fun _ => ?_
  have ho : ops[i]? = some ops[i] := Array.getElem?_eq_getElem hi
  rw [ho]
  simp only [Option.map_some, Option.getD_some, Array.all_eq_true', Option.some.injEq, exists_eq_left', Bool.or_eq_true, Bool.not_eq_true']
  constructor
  · intro h e he hb
    rcases h e he with h | h
    · rw [hb] at h; cases h
    · exact h
  · intro h e he
    cases hb : Region.binds .any e with
    | false => exact .inl rfl
    | true => exact .inr (h e he hb)
theorem Left.no {listed : Array Bool} {T : List Nat} (h : Left ops listed T) {x : Nat} (hx : x ∈ T) : listed.getD x false = true → False := by
  intro hl
  have hxl := h.lt x hx
  have := (h.mem x hxl).2 hx
  have h3 : x < listed.size := by have := h.sz; omega
  simp only [Array.getD_eq_getD_getElem?, Array.getElem?_eq_getElem h3, Option.getD_some] at hl this
  rw [this] at hl; cases hl
theorem Left.next {listed : Array Bool} {A B : List Nat} {i : Nat} (h : Left ops listed (A ++ i :: B)) {o : Oper} (ho : ops[i]? = some o) (hpre : ∀ e ∈ o.after, Region.binds .any e = true → listed.getD e.on false = true) : Left ops (listed.setIfInBounds i true) (A ++ B) := by
  obtain ⟨hsz, hT, hTl, hnd, hcl⟩ := h
  have hlt : i < listed.size := by rw [hsz]; exact hTl i (by simp)
  have hnd' : (A ++ B).Nodup ∧ i ∉ A ++ B := by
    rw [List.nodup_append] at hnd ⊢
    simp only [List.nodup_cons, List.mem_cons, List.mem_append] at hnd ⊢
    obtain ⟨n1, ⟨n2, n3⟩, n4⟩ := hnd
    exact ⟨⟨n1, n3, fun x hx y hy => n4 x hx y (.inr hy)⟩, fun h => h.elim (fun h => n4 i h i (.inl rfl) rfl) n2⟩
  refine ⟨by simpa using hsz, fun j hj => ?_, fun j hj => hTl j ?_, hnd'.1, ?_⟩
  · by_cases hji : j = i
    · subst hji
      simp only [Array.getD_eq_getD_getElem?, Array.getElem?_setIfInBounds_self_of_lt hlt, Option.getD_some]
      exact ⟨fun h => absurd h (by simp), fun h => absurd h hnd'.2⟩
    · have := hT j hj
      simp only [Array.getD_eq_getD_getElem?, Array.getElem?_setIfInBounds_ne (fun h => hji h.symm)] at this ⊢
      rw [this]
      simp [hji]
  · simp only [List.mem_append, List.mem_cons] at hj ⊢
    rcases hj with h | h
    · exact .inl h
    · exact .inr (.inr h)
  · intro j hj o' ho' e he hb
    have keep : ∀ k, listed.getD k false = true → (listed.setIfInBounds i true).getD k false = true := by
      intro k hk
      by_cases hki : k = i
      · subst hki; simp only [Array.getD_eq_getD_getElem?, Array.getElem?_setIfInBounds_self_of_lt hlt, Option.getD_some]
      · simp only [Array.getD_eq_getD_getElem?, Array.getElem?_setIfInBounds_ne (fun h => hki h.symm)] at hk ⊢; exact hk
    by_cases hji : j = i
    · subst hji
      rw [ho] at ho'
      obtain rfl := Option.some.inj ho'
      exact keep _ (hpre e he hb)
    · refine keep _ (hcl j ?_ o' ho' e he hb)
      simp only [Array.getD_eq_getD_getElem?, Array.getElem?_setIfInBounds_ne (fun h => hji h.symm)] at hj ⊢; exact hj
theorem Left.swaps {s0 : S} {listed : Array Bool} {T : List Nat} (h : Left ops listed T) {A : List Nat} {i : Nat} (hA : ∀ x ∈ A, x ∈ T) {o : Oper} (ho : ops[i]? = some o) (hpre : ∀ e ∈ o.after, Region.binds .any e = true → listed.getD e.on false = true) (hP : ∀ x ∈ A, pairB ops s0 x i = true) : ∀ x ∈ A, swapB ops s0 x i = true := by
  intro x hx
  have hp := hP x hx
  unfold pairB at hp
  simp only [Bool.and_eq_true, Bool.or_eq_true] at hp
  have hpi : ∀ o', ops[i]? = some o' → ∀ e ∈ o'.after, Region.binds .any e = true → listed.getD e.on false = true := fun o' ho' => by rw [ho] at ho'; obtain rfl := Option.some.inj ho'; exact hpre
  rcases hp.2 with (h' | h') | h'
  · exact (h.no (hA x hx) (dir_listed hpi h')).elim
  · exact h'
  · exact (h.no (hA x hx) (bef_listed h.cl ops.size i hpi h')).elim
theorem Left.any {s0 : S} (hE : (List.range ops.size).all (edgesB ops) = true) (hF : ∀ s u m ρ a w, Fin s u m → Rel c s u m ρ a w → Q .normal a w) {n : Nat} {T : List Nat} {listed : Array Bool} {s : S} {u m : PH} {ρ : Nat → Nat} {a : Act} {w : World} (h : Left ops listed T) (hn : T.length = n)
    (hP : T.Pairwise (fun x y => pairB ops s0 x y = true)) (hag : Agree ops s0 s) (hO : Ob P id ops true Fin T s u m) (hr : Rel c s u m ρ a w) : Go.wpAny P .any ops Q n listed a w :=
  Ob.wpAny hE hF n T listed hn h.sz h.mem h.lt h.nd h.cl hP hag hO hr
theorem Left.perm {listed : Array Bool} {T T' : List Nat} (h : Left ops listed T) (hp : T.Perm T') : Left ops listed T' :=
  ⟨h.sz, fun i hi => (h.mem i hi).trans hp.mem_iff, fun i hi => h.lt i (hp.mem_iff.2 hi), hp.nodup_iff.1 h.nd, h.cl⟩
theorem Left.first {listed : Array Bool} {t : Nat} {T : List Nat} (h : Left ops listed (t :: T)) (hE : (List.range ops.size).all (edgesB ops) = true) (hd : ∀ x ∈ T, dir ops t x = false) : t ∈ Region.ready .any ops listed := by
  have hp := h.lt t (by simp)
  refine ready_iff.2 ⟨hp, (h.mem t hp).2 (by simp), ops[t], Array.getElem?_eq_getElem hp, fun e he hb => ?_⟩
  rw [List.all_eq_true] at hE
  have hed := hE t (by simpa using hp)
  unfold edgesB at hed
  rw [Array.getElem?_eq_getElem hp] at hed
  simp only [List.all_eq_true] at hed
  have := hed e (by simpa using he)
  simp only [hb, Bool.not_true, Bool.false_or, Bool.and_eq_true, Bool.not_eq_true'] at this
  have hlt : e.on < ops.size := Nat.blt_eq ▸ this.1
  have hne : e.on ≠ t := fun h => by rw [h] at this; simp at this
  have hdir : dir ops t e.on = true := by
    unfold dir
    rw [Array.getElem?_eq_getElem hp]
    simp only [List.any_eq_true, Bool.and_eq_true]
    exact ⟨e, by simpa using he, hb, by simp⟩
  cases hl : listed.getD e.on true with
  | true =>
    have h1 : e.on < listed.size := by have := h.sz; omega
    simp only [Array.getD_eq_getD_getElem?, Array.getElem?_eq_getElem h1, Option.getD_some] at hl ⊢; exact hl
  | false =>
    have hm := (h.mem e.on hlt).1 hl
    rcases List.mem_cons.1 hm with hm | hm
    · exact absurd hm hne
    · rw [hd _ hm] at hdir; cases hdir
theorem pairB_dir {s0 : S} {x y : Nat} (h : pairB ops s0 x y = true) : dir ops x y = false := by
  unfold pairB at h
  simp only [Bool.and_eq_true, Bool.not_eq_true'] at h
  exact h.1.1
theorem Ob.wpAny2 {s0 : S} (hE : (List.range ops.size).all (edgesB ops) = true) (hF : ∀ s u m ρ a w, Fin s u m → Rel c s u m ρ a w → Q .normal a w) {p q : Nat} {post : List Nat} (hpost : ∀ y ∈ post, bef ops ops.size y p = true) (hpq : dir ops p q = false) :
    ∀ (n : Nat) (pre : List Nat) (listed : Array Bool) {s : S} {u m : PH} {ρ : Nat → Nat} {a : Act} {w : World}, pre.length + (post.length + 2) = n → Left ops listed (pre ++ p :: q :: post) →
      (pre ++ p :: post).Pairwise (fun x y => pairB ops s0 x y = true) → (pre ++ q :: post).Pairwise (fun x y => pairB ops s0 x y = true) → Agree ops s0 s →
      Ob P id ops true (fun s u m => Ob P id ops true Fin (p :: q :: post) s u m ∧ Ob P id ops true Fin (q :: p :: post) s u m) pre s u m → Rel c s u m ρ a w → Go.wpAny P .any ops Q n listed a w := by
  intro n
  induction n with
  | zero => intro pre listed s u m ρ a w hlen; omega
  | succ n ih =>
    intro pre listed s u m ρ a w hlen hLeft hP1 hP2 hag hO hr
    refine ⟨fun hnil => ?_, fun i hi => ?_⟩
    · exfalso
      cases pre with
      | nil =>
        have := hLeft.first hE fun x hx => by
          rcases List.mem_cons.1 hx with rfl | hx
          · exact hpq
          · exact pairB_dir (List.rel_of_pairwise_cons hP1 hx)
        rw [hnil] at this; cases this
      | cons t T' =>
        have := Left.first (t := t) (T := T' ++ p :: q :: post) hLeft hE fun x hx => by
          simp only [List.mem_append, List.mem_cons] at hx
          rcases hx with hx | rfl | rfl | hx
          · exact pairB_dir (List.rel_of_pairwise_cons hP1 (by simp [hx]))
          · exact pairB_dir (List.rel_of_pairwise_cons hP1 (by simp))
          · exact pairB_dir (List.rel_of_pairwise_cons hP2 (by simp))
          · exact pairB_dir (List.rel_of_pairwise_cons hP1 (by simp [hx]))
        rw [hnil] at this; cases this
    · obtain ⟨h1, h2, o, ho, hpre⟩ := ready_iff.1 hi
      have hm := (hLeft.mem i h1).1 h2
      simp only [List.mem_append, List.mem_cons] at hm
      rcases hm with hm | hm | hm | hm
      · obtain ⟨A, B, rfl⟩ := List.append_of_mem hm
        have hLeft' : Left ops listed (A ++ i :: (B ++ p :: q :: post)) := by
          rw [List.append_assoc] at hLeft; exact hLeft
        have hP1' : (A ++ i :: (B ++ p :: post)).Pairwise (fun x y => pairB ops s0 x y = true) := by
          rw [List.append_assoc] at hP1; exact hP1
        have hP2' : (A ++ i :: (B ++ q :: post)).Pairwise (fun x y => pairB ops s0 x y = true) := by
          rw [List.append_assoc] at hP2; exact hP2
        have hsw := hLeft'.swaps (A := A) (s0 := s0) (fun x hx => by simp [hx]) ho hpre fun x hx => (List.pairwise_append.1 hP1').2.2 x hx i (by simp)
        have hO' := Ob.bubble A hsw hr.lv hag hO
        refine wpOp_mono (fun a' w' ⟨s', u', m', ρ', r1, ra, r2⟩ => ?_) (hO'.step (Q := Q) hr)
        refine ih (A ++ B) _ (by simp at hlen ⊢; omega) (by rw [List.append_assoc]; exact hLeft'.next ho hpre) ?_ ?_ (hag.trans ra) r2 r1
        · rw [List.append_assoc]
          exact hP1'.sublist (List.Sublist.append_left (List.sublist_cons_self i _) A)
        · rw [List.append_assoc]
          exact hP2'.sublist (List.Sublist.append_left (List.sublist_cons_self i _) A)
      · subst hm
        have hsw := hLeft.swaps (A := pre) (s0 := s0) (fun x hx => by simp [hx]) ho hpre fun x hx => (List.pairwise_append.1 hP1).2.2 x hx i (by simp)
        have hO' := Ob.bubble pre hsw hr.lv hag (Ob.append (l2 := i :: q :: post) (hO.fin fun s u m h => h.1))
        refine wpOp_mono (fun a' w' ⟨s', u', m', ρ', r1, ra, r2⟩ => ?_) (hO'.step (Q := Q) hr)
        exact (hLeft.next ho hpre).any hE hF (by simp; omega) hP2 (hag.trans ra) r2 r1
      · subst hm
        have hLeft' : Left ops listed (pre ++ i :: p :: post) := hLeft.perm ((List.Perm.swap i p post).append_left pre)
        have hsw := hLeft'.swaps (A := pre) (s0 := s0) (fun x hx => by simp [hx]) ho hpre fun x hx => (List.pairwise_append.1 hP2).2.2 x hx i (by simp)
        have hO' := Ob.bubble pre hsw hr.lv hag (Ob.append (l2 := i :: p :: post) (hO.fin fun s u m h => h.2))
        refine wpOp_mono (fun a' w' ⟨s', u', m', ρ', r1, ra, r2⟩ => ?_) (hO'.step (Q := Q) hr)
        exact (hLeft'.next ho hpre).any hE hF (by simp; omega) hP1 (hag.trans ra) r2 r1
      · exfalso
        exact hLeft.no (x := p) (by simp) (bef_listed hLeft.cl ops.size i (fun o' ho' => by rw [ho] at ho'; obtain rfl := Option.some.inj ho'; exact hpre) (hpost i hm))
def autoL (P : Program) (id : Nat) (ops : Array Oper) : List Nat → S → Option S
  | [], s => some s
  | i :: l, s => match ops[i]? with
    | some o => match dstOK s o with
      | true => match gv s ops o with
        | some true => match eff P (id * 1000 + i) s o.op with
          | some (x, hw) => autoL P id ops l ((s.put o.dst x).setb hw)
          | none => none
        | some false => autoL P id ops l (s.put o.dst (.v undef))
        | none => none
      | false => none
    | none => none
theorem Ob.autos : ∀ {l : List Nat} {s s' : S} {u m : PH}, autoL P id ops l s = some s' → Fin s' u m → Ob P id ops dr Fin l s u m
  | [], s, s', u, m, h, hf => by
    unfold autoL at h
    cases h
    exact .nil hf
  | i :: l, s, s', u, m, h, hf => by
    unfold autoL at h
    split at h
    · rename_i o ho
      split at h
      · rename_i hd
        split at h
        · rename_i hg
          split at h
          · rename_i x hw he
            exact .auto ho hg hd he (Ob.autos h hf)
          · cases h
        · rename_i hg
          exact .skip ho hg hd (Ob.autos h hf)
        · cases h
      · cases h
    · cases h
def reg2B (ops : Array Oper) (s : S) (pre : List Nat) (p q : Nat) (post : List Nat) : Bool :=
  Nat.beq (pre.length + (post.length + 2)) ops.size && (List.range ops.size).all (fun i => (pre ++ p :: q :: post).contains i) && (pre ++ p :: q :: post).all (fun i => Nat.blt i ops.size) && pairsB ops s (pre ++ p :: post) && pairsB ops s (pre ++ q :: post) &&
    (List.range ops.size).all (edgesB ops) && post.all (fun y => bef ops ops.size y p) && !dir ops p q && !Nat.beq p q
end
section
variable {P : Program} {fn : Func} {Post : Spec}
theorem nodup_of_pairs {ops : Array Oper} {s : S} {T : List Nat} (h : T.Pairwise (fun x y => pairB ops s x y = true)) : T.Nodup := by
  refine h.imp fun {x y} hxy e => ?_
  unfold pairB at hxy
  subst e
  simp at hxy
theorem Sym.reg_two (hm : P.follows .mixedOrders = true) {id : Nat} {ops : Array Oper} {pre post : List Nat} {p q : Nat} {s : S} (hB : reg2B ops s pre p q post = true) {k : List KI} {u m : PH}
    (h : Ob P id ops true (fun s u m => Ob P id ops true (SymC P fn Post k) (p :: q :: post) s u m ∧ Ob P id ops true (SymC P fn Post k) (q :: p :: post) s u m) pre s u m) : SymC P fn Post (.code (.region id ops true) :: k) s u m := by
  intro c ρ a w hm0 hr
  simp only [cont, Exit.then]
  unfold reg2B at hB
  simp only [Bool.and_eq_true, Bool.not_eq_true'] at hB
  obtain ⟨⟨⟨⟨⟨⟨⟨⟨b1, b2⟩, b3⟩, b4⟩, b5⟩, b6⟩, b7⟩, b8⟩, b9⟩ := hB
  have b1 := Nat.eq_of_beq_eq_true b1
  rw [List.all_eq_true] at b2 b3 b7
  have P1 := pairsB_spec b4
  have P2 := pairsB_spec b5
  have n1 := nodup_of_pairs P1
  have n2 := nodup_of_pairs P2
  have hne : p ≠ q := fun e => by rw [e] at b9; simp at b9
  refine wp_region_any hm ?_
  refine Ob.wpAny2 (c := c) b6 (fun s u m ρ a w hf hr => hf c ρ a w hm0 hr) b7 b8 _ pre _ b1 ⟨by simp, fun i hi => ?_, fun i hi => Nat.blt_eq ▸ b3 i hi, ?_, fun i hi => ?_⟩ P1 P2 (Agree.refl _ _) h hr.drew
  · have := b2 i (by simpa using hi)
    rw [List.contains_iff_mem] at this
    simp only [Array.getD_eq_getD_getElem?, Array.getElem?_replicate, hi, if_true, Option.getD_some]
    exact ⟨fun _ => this, fun _ => trivial⟩
  · rw [List.nodup_append] at n1 n2 ⊢
    simp only [List.nodup_cons, List.mem_cons] at n1 n2 ⊢
    obtain ⟨a1, ⟨a2, a3⟩, a4⟩ := n1
    obtain ⟨c1, ⟨c2, c3⟩, c4⟩ := n2
    refine ⟨a1, ⟨fun e => e.elim hne a2, c2, c3⟩, fun x hx y hy => ?_⟩
    rcases hy with rfl | rfl | hy
    · exact a4 x hx _ (.inl rfl)
    · exact c4 x hx _ (.inl rfl)
    · exact a4 x hx _ (.inr hy)
  · exfalso
    simp only [Array.getD_eq_getD_getElem?] at hi
    by_cases hlt : i < ops.size
    · simp [hlt] at hi
    · rw [Array.getElem?_eq_none (by simp; omega)] at hi; simp at hi
def bothB (P : Program) (pre : List Nat) (p q : Nat) (post : List Nat) (st : List KI × S) : Bool := match st with
  | (.code (.region id ops true) :: k, s) => reg2B ops s pre p q post && (autoL P id ops pre s).isSome
  | _ => false
def bothS (P : Program) (pre l : List Nat) (st : List KI × S) : List KI × S := match st with
  | (.code (.region id ops true) :: k, s) => match autoL P id ops pre s with
    | some s' => (.reg id ops true l :: k, s')
    | none => st
  | _ => st
end
section rules
variable {P : Program} [Mixed P] {fn : Func} {Post : Spec} {st : List KI × S} {u m : PH}
theorem G.both (pre : List Nat) (p q : Nat) (post : List Nat) (h : bothB P pre p q post (adv P st) = true) (k1 : G P fn Post (bothS P pre (p :: q :: post) (adv P st)) u m) (k2 : G P fn Post (bothS P pre (q :: p :: post) (adv P st)) u m) : G P fn Post st u m := by
  refine G.stp ⟨?_⟩
  generalize adv P st = st' at h k1 k2
  unfold bothB at h
  split at h
  · rename_i id ops k s
    rw [Bool.and_eq_true] at h
    obtain ⟨h1, h2⟩ := h
    obtain ⟨s', hs'⟩ := Option.isSome_iff_exists.1 h2
    have e : ∀ l, bothS P pre l (.code (.region id ops true) :: k, s) = (.reg id ops true l :: k, s') := fun l => by unfold bothS; simp only [hs']
    rw [e] at k1 k2
    exact Sym.reg_two Mixed.mx h1 (Ob.autos hs' ⟨k1.out, k2.out⟩)
  · cases h
end rules
end Go.Proofs.YtikfmknnbjocmaaGreatDoor
end
section
set_option linter.unusedSectionVars false
set_option linter.unusedVariables false
namespace Go.Proofs.YtikfmknnbjocmaaGreatDoor
open Go.RowKit Go.MapKept
theorem Src.h0or (s : Src) (k k' : Nat) (n0 : PH) (g : Nat) : s.M k g = none ∨ (n0.or (s.M k')) g ≠ none := by
  rcases s.h0 k k' g with e | e
  · exact .inl e
  · right
    intro h
    cases hx : n0 g with
    | some o => rw [PH.or_l hx] at h; cases h
    | none => rw [PH.or_r hx] at h; exact e h
theorem bag_off {m : PH} {a b c d : Arr} (h : Bag m [a, b, c, d]) : Bag m [a, c, d] := by
  have h1 : Bag m [a, c, d, b] := Bag.perm (List.Perm.cons a ((List.Perm.swap c b [d]).trans (List.Perm.cons c (List.Perm.swap d b [])))) h
  obtain ⟨p0, q0, p1, q1, p2, q2, _⟩ := h1
  exact ⟨p0, q0, p1, q1, p2, q2, trivial⟩
theorem kinds4 {x : Int} (h : x ∈ [1, 2, 2, (3 : Int)]) : ∃ n : Nat, x = (n : Int) ∧ 1 ≤ n ∧ n ≤ 3 := by
  simp at h
  rcases h with rfl | rfl | rfl
  · exact ⟨1, rfl, by omega, by omega⟩
  · exact ⟨2, rfl, by omega, by omega⟩
  · exact ⟨3, rfl, by omega, by omega⟩
set_option maxHeartbeats 8000000 in
theorem srcSchema0 {u : PH} {s : Src} {ts : List Int} {k : Nat} (h : SrcOK u s ts) (hk : k ≤ s.n) :
    Contract Tryz.prog 10 [s.ptr, .int .i64 6] u (s.M k) fun v u' m' => ∃ (T : List (List UInt8 × Nat)) (R : List SRel) (F : List Feat) (lab : Int) (k' : Nat), SchP u' v T R F lab ∧ SchOK u' T R F lab ∧ T.length ≤ 6 ∧ k' ≤ s.n ∧ m' = s.M k' := by
  refine Contract.of Tryz.func10 (by kernel_rfl) (by kernel_rfl) ?_
  refine G.callA _ _ (by kernel_rfl) (by kernel_rfl) Tryz.call36 (mt_or _).symm (apart_mt _) (srcRange0 (lo := 1) (hi := 3) (n := 3) h hk (by omega) (by omega) (by omega) (by omega) (by omega)) ?_
  rintro v1 u1 m1 l1 ⟨r, k1, rfl, hr, hk1, rfl⟩ _
  rw [mt_or]
  obtain ⟨n, hn⟩ : ∃ n : Nat, (1 : Int) + (r : Int) = (n : Int) := ⟨1 + r, by omega⟩
  rw [hn]
  refine G.loop (ι := Nat × Nat × List (List UInt8 × Nat) × (Option Addr × Nat) × List SRel × (Option Addr × Nat)) (fun i => [(0, .v s.ptr), (1, .v (.int .i64 6)), (4, .p 0 0), (5, .p 1001 0), (6, .v (.int .i64 (n : Int))), (7, .v (.int .i64 (i.1 : Int)))])
    (fun i => [(0, ⟨30, [.v (.slice none 0 0), .v (.slice none 0 0), .v (.slice none 0 0), .v (.int .i64 0)]⟩), (1001, ⟨30, [.v (.slice i.2.2.2.1.1 i.2.2.1.length i.2.2.2.1.2), .v (.slice i.2.2.2.2.2.1 i.2.2.2.2.1.length i.2.2.2.2.2.2), .v (.slice none 0 0), .v (.int .i64 (-1))]⟩)])
    (fun i u' m' => i.1 ≤ n ∧ i.2.1 ≤ s.n ∧ TOK i.2.2.1 ∧ ROK u' i.2.2.1.length i.2.2.2.2.1 ∧ i.2.2.2.2.1.length = i.1 ∧ (0 < i.1 → 0 < i.2.2.1.length) ∧ Bag m' [s.arr i.2.1, aArr i.2.2.2.1.1 i.2.2.2.1.2 i.2.2.1, rArr i.2.2.2.2.2.1 i.2.2.2.2.2.2 i.2.2.2.2.1])
    (fun i => n - i.1) (0, k1, [], (none, 0), [], (none, 0)) (by kernel_rfl) (fun _ => by kernel_rfl) ⟨by kernel_rfl, by kernel_rfl, by kernel_rfl⟩
    ⟨Nat.zero_le _, hk1, TOK.nil, ROK.nil, rfl, fun h => absurd h (by simp), s.bag0 k1 ⟨PH.mt, ArrAt.nil _ _ _, PH.mt, ArrAt.nil _ _ _, trivial⟩⟩ ?_
  rintro J ⟨i, k2, T, ⟨ta, tc⟩, R, ⟨ra, rc⟩⟩ hJ u2 m2 l2 ⟨hi, hk2, hT, hR, hRl, h0, hbag⟩
  simp only at hi hk2 hT hR hRl h0 hbag hJ
  subst hRl
  have le2 := l1.trans l2
  have hT6 := hT.le
  by_cases hlt : R.length < n
  · refine G.lssT (R.length : Int) (n : Int) (by kernel_rfl) (by omega) ?_
    refine G.loop (ι := Nat × Nat × List Nat × (Option Addr × Nat)) (fun i => [(0, .v s.ptr), (1, .v (.int .i64 6)), (4, .p 0 0), (5, .p 1001 0), (6, .v (.int .i64 (n : Int))), (7, .v (.int .i64 (R.length : Int))), (8, .v (.slice i.2.2.2.1 i.2.2.1.length i.2.2.2.2)), (23, .v (.int .i64 (T.length : Int))), (24, .v (.int .i64 (i.1 : Int)))])
      (fun i => [(0, ⟨30, [.v (.slice none 0 0), .v (.slice none 0 0), .v (.slice none 0 0), .v (.int .i64 0)]⟩), (1001, ⟨30, [.v (.slice ta T.length tc), .v (.slice ra R.length rc), .v (.slice none 0 0), .v (.int .i64 (-1))]⟩)])
      (fun i u' m' => i.1 ≤ T.length ∧ i.2.1 ≤ s.n ∧ LOK i.2.2.1 i.1 ∧ Bag m' [s.arr i.2.1, iArr i.2.2.2.1 i.2.2.2.2 i.2.2.1, aArr ta tc T, rArr ra rc R])
      (fun i => T.length - i.1) (0, k2, [], (none, 0)) (by kernel_rfl) (fun _ => by kernel_rfl) ⟨by kernel_rfl, by kernel_rfl, by kernel_rfl⟩
      ⟨Nat.zero_le _, hk2, LOK.nil, by obtain ⟨m0, hs0, hL⟩ := hbag; exact ⟨m0, hs0, m0, ArrAt.nil _ _ _, hL⟩⟩ ?_
    rintro J1 ⟨j, k3, l, ⟨la, lc⟩⟩ hJ1 u3 m3 l3 ⟨hj, hk3, hl, hbag3⟩
    simp only at hj hk3 hl hbag3 hJ1
    have hll := hl.len
    by_cases hltj : j < T.length
    · refine G.lssT (j : Int) (T.length : Int) (by kernel_rfl) (by omega) ?_
      obtain ⟨n4, hsrc4, hL4⟩ := hbag3
      obtain ⟨rfl, hg4⟩ := Src.split hsrc4
      refine G.callA _ _ (by kernel_rfl) (by kernel_rfl) Tryz.call37 rfl (Src.apart hg4) (srcN0 (n := 3) (h.mono (le2.trans l3)) hk3 (by omega) (by omega)) ?_
      rintro v4 u4 m4 l4 ⟨r4, k4, rfl, hr4, hk4, rfl⟩ _
      have hbag4 : Bag _ [s.arr k4, iArr la lc l, aArr ta tc T, rArr ra rc R] := ⟨_, Src.at hg4, hL4⟩
      by_cases hr0 : r4 = 0
      · refine G.eqlT (r4 : Int) 0 (by kernel_rfl) (by omega) ?_
        refine G.buildU 3 1 8 (.int .i64 0) [.int .i64 (j : Int)] (by kernel_rfl) (intsV_ok [j]) rfl (by omega) (by simp) (by simp) ?_
        intro g6 u6 l6 e6
        obtain ⟨mm6, hx6, hput6⟩ := hbag4.focus 1 rfl
        rw [iArr_at] at hx6
        refine G.append 3 1 8 (.int .i64 0) mm6 (intsV l) [.int .i64 (j : Int)] (.slice la l.length lc) g6 0 1 1 (by kernel_rfl) rfl rfl (by omega) hx6 e6 (intsV_ok [j]) rfl (by omega) (by simp [intsV]; omega) (by simp [intsV]; omega) ?_
        intro w6 mn6 hy6
        rw [intsV_snoc] at hy6
        obtain ⟨a6, c6, rfl⟩ := hy6.shape
        rw [intsV_length] at hy6 ⊢
        have hbag6 := hput6 (iArr a6 c6 (l ++ [j])) mn6 hy6
        simp only [List.set_cons_succ, List.set_cons_zero] at hbag6
        refine G.add (j : Int) 1 ((j + 1 : Nat) : Int) (by kernel_rfl) (by omega) (by omega) (by omega) ?_
        exact G.back (by kernel_rfl) (hJ1 (j + 1, k4, l ++ [j], (a6, c6)) _ _ _ ⟨by kernel_rfl, by kernel_rfl, by kernel_rfl⟩ ((l3.trans l4).trans l6) ⟨by dsimp only; omega, hk4, hl.snoc, hbag6⟩ (by dsimp only; omega))
      · refine G.eqlF (r4 : Int) 0 (by kernel_rfl) (by omega) ?_
        refine G.add (j : Int) 1 ((j + 1 : Nat) : Int) (by kernel_rfl) (by omega) (by omega) (by omega) ?_
        exact G.back (by kernel_rfl) (hJ1 (j + 1, k4, l, (la, lc)) _ _ _ ⟨by kernel_rfl, by kernel_rfl, by kernel_rfl⟩ (l3.trans l4) ⟨by dsimp only; omega, hk4, hl.up, hbag4⟩ (by dsimp only; omega))
    · obtain rfl : j = T.length := by omega
      refine G.lssF (T.length : Int) (T.length : Int) (by kernel_rfl) (by omega) ?_
      obtain ⟨n4, hsrc4, hL4⟩ := hbag3
      obtain ⟨rfl, hg4⟩ := Src.split hsrc4
      refine G.callA _ _ (by kernel_rfl) (by kernel_rfl) Tryz.call37 rfl (Src.apart hg4) (srcN0 (n := 3) (h.mono (le2.trans l3)) hk3 (by omega) (by omega)) ?_
      rintro v4 u4 m4 l4 ⟨r4, k4, rfl, hr4, hk4, rfl⟩ _
      have hbag4 : Bag _ [s.arr k4, iArr la lc l, aArr ta tc T, rArr ra rc R] := ⟨_, Src.at hg4, hL4⟩
      refine G.loop (ι := Int × Nat × List Nat × (Option Addr × Nat) × List (List UInt8 × Nat) × (Option Addr × Nat)) (fun i => [(0, .v s.ptr), (1, .v (.int .i64 6)), (4, .p 0 0), (5, .p 1001 0), (6, .v (.int .i64 (n : Int))), (7, .v (.int .i64 (R.length : Int))), (8, .v (.slice i.2.2.2.1.1 i.2.2.1.length i.2.2.2.1.2)), (10, .v (.int .i64 i.1))])
        (fun i => [(0, ⟨30, [.v (.slice none 0 0), .v (.slice none 0 0), .v (.slice none 0 0), .v (.int .i64 0)]⟩), (1001, ⟨30, [.v (.slice i.2.2.2.2.2.1 i.2.2.2.2.1.length i.2.2.2.2.2.2), .v (.slice ra R.length rc), .v (.slice none 0 0), .v (.int .i64 (-1))]⟩)])
        (fun i u' m' => i.2.1 ≤ s.n ∧ (i.2.2.1 = [] → 0 ≤ i.1) ∧ -1 ≤ i.1 ∧ i.1 ≤ 2 ∧ T.length ≤ i.2.2.2.2.1.length ∧ TOK i.2.2.2.2.1 ∧ LOK i.2.2.1 i.2.2.2.2.1.length ∧ (∀ a, T.length ≤ a → a < i.2.2.2.2.1.length → a ∈ i.2.2.1) ∧ Bag m' [s.arr i.2.1, iArr i.2.2.2.1.1 i.2.2.2.1.2 i.2.2.1, aArr i.2.2.2.2.2.1 i.2.2.2.2.2.2 i.2.2.2.2.1, rArr ra rc R])
        (fun i => (i.1 + 1).toNat) ((r4 : Int), k4, l, (la, lc), T, (ta, tc)) (by kernel_rfl) (fun _ => by kernel_rfl) ⟨by kernel_rfl, by kernel_rfl, by kernel_rfl⟩
        ⟨hk4, fun _ => by dsimp only; omega, by dsimp only; omega, by dsimp only; omega, Nat.le_refl _, hT, hl, fun a h1 h2 => by dsimp only at h2; omega, hbag4⟩ ?_
      rintro J2 ⟨z, k5, l5, ⟨la5, lc5⟩, T5, ⟨ta5, tc5⟩⟩ hJ2 u5 m5 l5' ⟨hk5, hz0, hz1, hz2, hTle5, hT5, hl5, hall5, hbag5⟩
      simp only at hk5 hz0 hz1 hz2 hTle5 hT5 hl5 hall5 hbag5 hJ2
      have hT56 := hT5.le
      have hl56 := hl5.len
      have le5 := ((le2.trans l3).trans l4).trans l5'
      have lo5 := (l3.trans l4).trans l5'
      by_cases hz : 0 < z
      · refine G.gtrT z 0 (by kernel_rfl) (by omega) ?_
        by_cases hlen : T5.length < 6
        · refine G.lssT (T5.length : Int) 6 (by kernel_rfl) (by omega) ?_
          refine G.buildU 3 1 8 (.int .i64 0) [.int .i64 (T5.length : Int)] (by kernel_rfl) (intsV_ok [T5.length]) rfl (by omega) (by simp) (by simp) ?_
          intro g21 u21 l21 e21
          obtain ⟨mm21, hx21, hput21⟩ := hbag5.focus 1 rfl
          rw [iArr_at] at hx21
          refine G.append 3 1 8 (.int .i64 0) mm21 (intsV l5) [.int .i64 (T5.length : Int)] (.slice la5 l5.length lc5) g21 0 1 1 (by kernel_rfl) rfl rfl (by omega) hx21 e21 (intsV_ok [T5.length]) rfl (by omega) (by simp [intsV]; omega) (by simp [intsV]; omega) ?_
          intro w21 mn21 hy21
          rw [intsV_snoc] at hy21
          obtain ⟨a21, c21, rfl⟩ := hy21.shape
          rw [intsV_length] at hy21 ⊢
          have hbag21 := hput21 (iArr a21 c21 (l5 ++ [T5.length])) mn21 hy21
          simp only [List.set_cons_succ, List.set_cons_zero] at hbag21
          refine G.both [0, 1, 2, 3, 4, 6] 5 7 [8, 9, 10, 11, 12, 13] (by kernel_rfl) ?_ ?_
          · refine G.call0 _ _ (by kernel_rfl) Tryz.call38 (letter0 (p := [97]) (i := T5.length) (by omega) (by simp)) ?_
            rintro v22 u22 l22 rfl
            refine G.buildU 3 1 8 (.int .i64 0) [.int .i64 1, .int .i64 2, .int .i64 2, .int .i64 3] (by kernel_rfl) (intsZ_ok [1, 2, 2, 3]) rfl (by omega) (by simp) (by simp) ?_
            intro g23 u23 l23 e23
            have le23 := (((le5).trans l21).trans l22).trans l23
            have lq23 := l22.trans l23
            have e23p := e23.listP
            obtain ⟨n24, hsrc24, hL24⟩ := hbag21
            obtain ⟨rfl, hg24⟩ := Src.split hsrc24
            refine G.callA _ _ (by kernel_rfl) (by kernel_rfl) Tryz.call39 rfl (Src.apart hg24) (srcPick0 (L := [1, 2, 2, 3]) (h.mono le23) hk5 e23p (by simp) (by simp)) ?_
            rintro v24 u24 m24 l24 ⟨kd, hkd, k24, rfl, hk24, rfl⟩ _
            obtain ⟨kn, rfl, hkn1, hkn3⟩ := kinds4 hkd
            have hbag24 : Bag (n24.or (s.M k24)) [s.arr k24, iArr a21 c21 (l5 ++ [T5.length]), aArr ta5 tc5 T5, rArr ra rc R] := ⟨n24, Src.at hg24, hL24⟩
            refine G.buildU 77 2 24 (.agg #[.string (mkS []), .int .i64 0]) [.agg #[.string (mkS (nmA T5.length)), .int .i64 (kn : Int)]] (by kernel_rfl) (attV_ok (nmA T5.length, kn)) rfl (by omega) (by simp) (by simp) ?_
            intro g25 u25 l25 e25
            obtain ⟨mm25, hx25, hput25⟩ := hbag24.focus 2 rfl
            rw [aArr_at] at hx25
            refine G.append 77 2 24 (.agg #[.string (mkS []), .int .i64 0]) mm25 (T5.map attV) [.agg #[.string (mkS (nmA T5.length)), .int .i64 (kn : Int)]] (.slice ta5 T5.length tc5) g25 0 1 1 (by kernel_rfl) rfl rfl (by omega) hx25 e25 (attV_ok (nmA T5.length, kn)) rfl (by omega) (by simp [intsV]; omega) (by simp [intsV]; omega) ?_
            intro w25 mn25 hy25
            rw [show T5.map attV ++ [.agg #[.string (mkS (nmA T5.length)), .int .i64 (kn : Int)]] = (T5 ++ [(nmA T5.length, kn)]).map attV by rw [List.map_append]; rfl] at hy25
            obtain ⟨a25, c25, rfl⟩ := hy25.shape
            rw [List.length_map] at hy25 ⊢
            have hbag25 := hput25 (aArr a25 c25 (T5 ++ [(nmA T5.length, kn)])) mn25 hy25
            simp only [List.set_cons_succ, List.set_cons_zero] at hbag25
            refine G.sub z 1 (z - 1) (by kernel_rfl) (by omega) (by omega) (by omega) ?_
            exact G.back (by kernel_rfl) (hJ2 (z - 1, k24, l5 ++ [T5.length], (a21, c21), T5 ++ [(nmA T5.length, kn)], (a25, c25)) _ _ _ ⟨by kernel_rfl, by kernel_rfl, by kernel_rfl⟩ ((((l5'.trans l21).trans lq23).trans l24).trans l25) ⟨hk24, fun e => by simp at e, by dsimp only; omega, by dsimp only; omega, by dsimp only; rw [List.length_append]; omega, hT5.snoc hkn1 hkn3 hlen, by dsimp only; rw [List.length_append]; exact hl5.snoc, fun a h1 h2 => by
              dsimp only at h2 ⊢
              rw [List.length_append, List.length_singleton] at h2
              rcases Nat.lt_or_ge a T5.length with e | e
              · exact List.mem_append_left _ (hall5 a h1 e)
              · exact List.mem_append_right _ (List.mem_singleton.2 (by omega)), hbag25⟩ (by dsimp only; omega))
          · refine G.buildU 3 1 8 (.int .i64 0) [.int .i64 1, .int .i64 2, .int .i64 2, .int .i64 3] (by kernel_rfl) (intsZ_ok [1, 2, 2, 3]) rfl (by omega) (by simp) (by simp) ?_
            intro g23 u23 l23 e23
            refine G.call0 _ _ (by kernel_rfl) Tryz.call38 (letter0 (p := [97]) (i := T5.length) (by omega) (by simp)) ?_
            rintro v22 u22 l22 rfl
            have le23 := (((le5).trans l21).trans l23).trans l22
            have lq23 := l23.trans l22
            have e23p := e23.listP.mono l22
            obtain ⟨n24, hsrc24, hL24⟩ := hbag21
            obtain ⟨rfl, hg24⟩ := Src.split hsrc24
            refine G.callA _ _ (by kernel_rfl) (by kernel_rfl) Tryz.call39 rfl (Src.apart hg24) (srcPick0 (L := [1, 2, 2, 3]) (h.mono le23) hk5 e23p (by simp) (by simp)) ?_
            rintro v24 u24 m24 l24 ⟨kd, hkd, k24, rfl, hk24, rfl⟩ _
            obtain ⟨kn, rfl, hkn1, hkn3⟩ := kinds4 hkd
            have hbag24 : Bag (n24.or (s.M k24)) [s.arr k24, iArr a21 c21 (l5 ++ [T5.length]), aArr ta5 tc5 T5, rArr ra rc R] := ⟨n24, Src.at hg24, hL24⟩
            refine G.buildU 77 2 24 (.agg #[.string (mkS []), .int .i64 0]) [.agg #[.string (mkS (nmA T5.length)), .int .i64 (kn : Int)]] (by kernel_rfl) (attV_ok (nmA T5.length, kn)) rfl (by omega) (by simp) (by simp) ?_
            intro g25 u25 l25 e25
            obtain ⟨mm25, hx25, hput25⟩ := hbag24.focus 2 rfl
            rw [aArr_at] at hx25
            refine G.append 77 2 24 (.agg #[.string (mkS []), .int .i64 0]) mm25 (T5.map attV) [.agg #[.string (mkS (nmA T5.length)), .int .i64 (kn : Int)]] (.slice ta5 T5.length tc5) g25 0 1 1 (by kernel_rfl) rfl rfl (by omega) hx25 e25 (attV_ok (nmA T5.length, kn)) rfl (by omega) (by simp [intsV]; omega) (by simp [intsV]; omega) ?_
            intro w25 mn25 hy25
            rw [show T5.map attV ++ [.agg #[.string (mkS (nmA T5.length)), .int .i64 (kn : Int)]] = (T5 ++ [(nmA T5.length, kn)]).map attV by rw [List.map_append]; rfl] at hy25
            obtain ⟨a25, c25, rfl⟩ := hy25.shape
            rw [List.length_map] at hy25 ⊢
            have hbag25 := hput25 (aArr a25 c25 (T5 ++ [(nmA T5.length, kn)])) mn25 hy25
            simp only [List.set_cons_succ, List.set_cons_zero] at hbag25
            refine G.sub z 1 (z - 1) (by kernel_rfl) (by omega) (by omega) (by omega) ?_
            exact G.back (by kernel_rfl) (hJ2 (z - 1, k24, l5 ++ [T5.length], (a21, c21), T5 ++ [(nmA T5.length, kn)], (a25, c25)) _ _ _ ⟨by kernel_rfl, by kernel_rfl, by kernel_rfl⟩ ((((l5'.trans l21).trans lq23).trans l24).trans l25) ⟨hk24, fun e => by simp at e, by dsimp only; omega, by dsimp only; omega, by dsimp only; rw [List.length_append]; omega, hT5.snoc hkn1 hkn3 hlen, by dsimp only; rw [List.length_append]; exact hl5.snoc, fun a h1 h2 => by
              dsimp only at h2 ⊢
              rw [List.length_append, List.length_singleton] at h2
              rcases Nat.lt_or_ge a T5.length with e | e
              · exact List.mem_append_left _ (hall5 a h1 e)
              · exact List.mem_append_right _ (List.mem_singleton.2 (by omega)), hbag25⟩ (by dsimp only; omega))
        · refine G.lssF (T5.length : Int) 6 (by kernel_rfl) (by omega) ?_
          by_cases hemp : l5 = []
          · have hdummy := hemp
            subst hemp
            refine G.eqlT (([] : List Nat).length : Int) 0 (by kernel_rfl) (by simp) ?_
            refine G.buildU 3 1 8 (.int .i64 0) [.int .i64 ((0 : Nat) : Int)] (by kernel_rfl) (intsV_ok [0]) rfl (by omega) (by simp) (by simp) ?_
            intro g26 u26 l26 e26
            have hl26 : ListP u26 (.slice (some ⟨g26, 0, none⟩) 1 1) 1 (intsV [0]) := e26.listP
            have hbag26 := bag_off hbag5
            refine G.call0 _ _ (by kernel_rfl) Tryz.call38 (letter0 (p := [114]) (i := R.length) (by omega) (by simp)) ?_
            rintro v27 u27 l27 rfl
            refine G.buildU 79 2 40 (.agg #[.string (mkS []), .slice none 0 0]) [.agg #[.string (mkS (nmR R.length)), .slice (some ⟨g26, 0, none⟩) 1 1]] (by kernel_rfl) (relV_ok (nmR R.length, [0], ((some (⟨g26, 0, none⟩ : Addr)), 1))) rfl (by omega) (by simp) (by simp) ?_
            intro g28 u28 l28 e28
            obtain ⟨mm28, hx28, hput28⟩ := hbag26.focus 2 rfl
            rw [rArr_at] at hx28
            refine G.append 79 2 40 (.agg #[.string (mkS []), .slice none 0 0]) mm28 (R.map relV) [.agg #[.string (mkS (nmR R.length)), .slice (some ⟨g26, 0, none⟩) 1 1]] (.slice ra R.length rc) g28 0 1 1 (by kernel_rfl) rfl rfl (by omega) hx28 e28 (relV_ok (nmR R.length, [0], ((some (⟨g26, 0, none⟩ : Addr)), 1))) rfl (by omega) (by simp [intsV]; omega) (by simp [intsV]; omega) ?_
            intro w28 mn28 hy28
            rw [show R.map relV ++ [.agg #[.string (mkS (nmR R.length)), .slice (some ⟨g26, 0, none⟩) 1 1]] = (R ++ [(nmR R.length, [0], ((some (⟨g26, 0, none⟩ : Addr)), 1))]).map relV by rw [List.map_append]; rfl] at hy28
            obtain ⟨a28, c28, rfl⟩ := hy28.shape
            rw [List.length_map] at hy28 ⊢
            have hbag28 := hput28 (rArr a28 c28 (R ++ [(nmR R.length, [0], ((some (⟨g26, 0, none⟩ : Addr)), 1))])) mn28 hy28
            simp only [List.set_cons_succ, List.set_cons_zero] at hbag28
            refine G.add (R.length : Int) 1 ((R.length + 1 : Nat) : Int) (by kernel_rfl) (by omega) (by omega) (by omega) ?_
            have hR28 : ROK u28 T5.length (R ++ [(nmR R.length, [0], ((some (⟨g26, 0, none⟩ : Addr)), 1))]) := by
              refine (hR.mono (lo5 |>.trans l26 |>.trans l27 |>.trans l28)).snoc hTle5 (LOK.zero (by omega)) (by simp) (fun a h1 h2 => ?_) (hl26.mono (l27.trans l28))
              exact absurd (hall5 a h1 h2) (by simp)
            exact G.back (by kernel_rfl) (hJ (R.length + 1, k5, T5, (ta5, tc5), R ++ [(nmR R.length, [0], ((some (⟨g26, 0, none⟩ : Addr)), 1))], (a28, c28)) _ _ _ ⟨by kernel_rfl, by kernel_rfl, by kernel_rfl⟩ (l2.trans (lo5 |>.trans l26 |>.trans l27 |>.trans l28)) ⟨by dsimp only; omega, hk5, hT5, hR28, by simp, fun _ => by dsimp only; omega, hbag28⟩ (by dsimp only; omega))
          · have hpos : 0 < T5.length := by omega
            have hl0 : 0 < l5.length := List.length_pos_iff.2 hemp
            refine G.eqlF (l5.length : Int) 0 (by kernel_rfl) (by omega) ?_
            obtain ⟨mL, hxl, hrest⟩ := hbag5.take 1 rfl
            have hbag26 : Bag mL [s.arr k5, aArr ta5 tc5 T5, rArr ra rc R] := hrest
            rw [iArr_at] at hxl
            refine G.give mL (intsV l5) (.slice la5 l5.length lc5) (by kernel_rfl) hxl (fun g => ?_) ?_
            · obtain ⟨n26, hs26, _⟩ := hbag26
              obtain ⟨rfl, _⟩ := Src.split hs26
              exact s.h0or k k5 n26 g
            intro u26 l26 hl26
            refine G.call0 _ _ (by kernel_rfl) Tryz.call38 (letter0 (p := [114]) (i := R.length) (by omega) (by simp)) ?_
            rintro v27 u27 l27 rfl
            refine G.buildU 79 2 40 (.agg #[.string (mkS []), .slice none 0 0]) [.agg #[.string (mkS (nmR R.length)), .slice la5 l5.length lc5]] (by kernel_rfl) (relV_ok (nmR R.length, l5, (la5, lc5))) rfl (by omega) (by simp) (by simp) ?_
            intro g28 u28 l28 e28
            obtain ⟨mm28, hx28, hput28⟩ := hbag26.focus 2 rfl
            rw [rArr_at] at hx28
            refine G.append 79 2 40 (.agg #[.string (mkS []), .slice none 0 0]) mm28 (R.map relV) [.agg #[.string (mkS (nmR R.length)), .slice la5 l5.length lc5]] (.slice ra R.length rc) g28 0 1 1 (by kernel_rfl) rfl rfl (by omega) hx28 e28 (relV_ok (nmR R.length, l5, (la5, lc5))) rfl (by omega) (by simp [intsV]; omega) (by simp [intsV]; omega) ?_
            intro w28 mn28 hy28
            rw [show R.map relV ++ [.agg #[.string (mkS (nmR R.length)), .slice la5 l5.length lc5]] = (R ++ [(nmR R.length, l5, (la5, lc5))]).map relV by rw [List.map_append]; rfl] at hy28
            obtain ⟨a28, c28, rfl⟩ := hy28.shape
            rw [List.length_map] at hy28 ⊢
            have hbag28 := hput28 (rArr a28 c28 (R ++ [(nmR R.length, l5, (la5, lc5))])) mn28 hy28
            simp only [List.set_cons_succ, List.set_cons_zero] at hbag28
            refine G.add (R.length : Int) 1 ((R.length + 1 : Nat) : Int) (by kernel_rfl) (by omega) (by omega) (by omega) ?_
            have hR28 : ROK u28 T5.length (R ++ [(nmR R.length, l5, (la5, lc5))]) := by
              exact (hR.mono (lo5 |>.trans l26 |>.trans l27 |>.trans l28)).snoc hTle5 hl5 hemp hall5 (hl26.mono (l27.trans l28))
            exact G.back (by kernel_rfl) (hJ (R.length + 1, k5, T5, (ta5, tc5), R ++ [(nmR R.length, l5, (la5, lc5))], (a28, c28)) _ _ _ ⟨by kernel_rfl, by kernel_rfl, by kernel_rfl⟩ (l2.trans (lo5 |>.trans l26 |>.trans l27 |>.trans l28)) ⟨by dsimp only; omega, hk5, hT5, hR28, by simp, fun _ => by dsimp only; omega, hbag28⟩ (by dsimp only; omega))
      · refine G.gtrF z 0 (by kernel_rfl) (by omega) ?_
        by_cases hemp : l5 = []
        · have hz' := hz0 hemp
          have hle0 : l5.length = 0 := by rw [hemp]; rfl
          refine G.eqlT (l5.length : Int) 0 (by kernel_rfl) (by omega) ?_
          by_cases hlen : T5.length < 6
          · refine G.lssT (T5.length : Int) 6 (by kernel_rfl) (by omega) ?_
            refine G.buildU 3 1 8 (.int .i64 0) [.int .i64 (T5.length : Int)] (by kernel_rfl) (intsV_ok [T5.length]) rfl (by omega) (by simp) (by simp) ?_
            intro g21 u21 l21 e21
            obtain ⟨mm21, hx21, hput21⟩ := hbag5.focus 1 rfl
            rw [iArr_at] at hx21
            refine G.append 3 1 8 (.int .i64 0) mm21 (intsV l5) [.int .i64 (T5.length : Int)] (.slice la5 l5.length lc5) g21 0 1 1 (by kernel_rfl) rfl rfl (by omega) hx21 e21 (intsV_ok [T5.length]) rfl (by omega) (by simp [intsV]; omega) (by simp [intsV]; omega) ?_
            intro w21 mn21 hy21
            rw [intsV_snoc] at hy21
            obtain ⟨a21, c21, rfl⟩ := hy21.shape
            rw [intsV_length] at hy21 ⊢
            have hbag21 := hput21 (iArr a21 c21 (l5 ++ [T5.length])) mn21 hy21
            simp only [List.set_cons_succ, List.set_cons_zero] at hbag21
            refine G.both [0, 1, 2, 3, 4, 6] 5 7 [8, 9, 10, 11, 12, 13] (by kernel_rfl) ?_ ?_
            · refine G.call0 _ _ (by kernel_rfl) Tryz.call38 (letter0 (p := [97]) (i := T5.length) (by omega) (by simp)) ?_
              rintro v22 u22 l22 rfl
              refine G.buildU 3 1 8 (.int .i64 0) [.int .i64 1, .int .i64 2, .int .i64 2, .int .i64 3] (by kernel_rfl) (intsZ_ok [1, 2, 2, 3]) rfl (by omega) (by simp) (by simp) ?_
              intro g23 u23 l23 e23
              have le23 := (((le5).trans l21).trans l22).trans l23
              have lq23 := l22.trans l23
              have e23p := e23.listP
              obtain ⟨n24, hsrc24, hL24⟩ := hbag21
              obtain ⟨rfl, hg24⟩ := Src.split hsrc24
              refine G.callA _ _ (by kernel_rfl) (by kernel_rfl) Tryz.call39 rfl (Src.apart hg24) (srcPick0 (L := [1, 2, 2, 3]) (h.mono le23) hk5 e23p (by simp) (by simp)) ?_
              rintro v24 u24 m24 l24 ⟨kd, hkd, k24, rfl, hk24, rfl⟩ _
              obtain ⟨kn, rfl, hkn1, hkn3⟩ := kinds4 hkd
              have hbag24 : Bag (n24.or (s.M k24)) [s.arr k24, iArr a21 c21 (l5 ++ [T5.length]), aArr ta5 tc5 T5, rArr ra rc R] := ⟨n24, Src.at hg24, hL24⟩
              refine G.buildU 77 2 24 (.agg #[.string (mkS []), .int .i64 0]) [.agg #[.string (mkS (nmA T5.length)), .int .i64 (kn : Int)]] (by kernel_rfl) (attV_ok (nmA T5.length, kn)) rfl (by omega) (by simp) (by simp) ?_
              intro g25 u25 l25 e25
              obtain ⟨mm25, hx25, hput25⟩ := hbag24.focus 2 rfl
              rw [aArr_at] at hx25
              refine G.append 77 2 24 (.agg #[.string (mkS []), .int .i64 0]) mm25 (T5.map attV) [.agg #[.string (mkS (nmA T5.length)), .int .i64 (kn : Int)]] (.slice ta5 T5.length tc5) g25 0 1 1 (by kernel_rfl) rfl rfl (by omega) hx25 e25 (attV_ok (nmA T5.length, kn)) rfl (by omega) (by simp [intsV]; omega) (by simp [intsV]; omega) ?_
              intro w25 mn25 hy25
              rw [show T5.map attV ++ [.agg #[.string (mkS (nmA T5.length)), .int .i64 (kn : Int)]] = (T5 ++ [(nmA T5.length, kn)]).map attV by rw [List.map_append]; rfl] at hy25
              obtain ⟨a25, c25, rfl⟩ := hy25.shape
              rw [List.length_map] at hy25 ⊢
              have hbag25 := hput25 (aArr a25 c25 (T5 ++ [(nmA T5.length, kn)])) mn25 hy25
              simp only [List.set_cons_succ, List.set_cons_zero] at hbag25
              refine G.sub z 1 (z - 1) (by kernel_rfl) (by omega) (by omega) (by omega) ?_
              exact G.back (by kernel_rfl) (hJ2 (z - 1, k24, l5 ++ [T5.length], (a21, c21), T5 ++ [(nmA T5.length, kn)], (a25, c25)) _ _ _ ⟨by kernel_rfl, by kernel_rfl, by kernel_rfl⟩ ((((l5'.trans l21).trans lq23).trans l24).trans l25) ⟨hk24, fun e => by simp at e, by dsimp only; omega, by dsimp only; omega, by dsimp only; rw [List.length_append]; omega, hT5.snoc hkn1 hkn3 hlen, by dsimp only; rw [List.length_append]; exact hl5.snoc, fun a h1 h2 => by
                dsimp only at h2 ⊢
                rw [List.length_append, List.length_singleton] at h2
                rcases Nat.lt_or_ge a T5.length with e | e
                · exact List.mem_append_left _ (hall5 a h1 e)
                · exact List.mem_append_right _ (List.mem_singleton.2 (by omega)), hbag25⟩ (by dsimp only; omega))
            · refine G.buildU 3 1 8 (.int .i64 0) [.int .i64 1, .int .i64 2, .int .i64 2, .int .i64 3] (by kernel_rfl) (intsZ_ok [1, 2, 2, 3]) rfl (by omega) (by simp) (by simp) ?_
              intro g23 u23 l23 e23
              refine G.call0 _ _ (by kernel_rfl) Tryz.call38 (letter0 (p := [97]) (i := T5.length) (by omega) (by simp)) ?_
              rintro v22 u22 l22 rfl
              have le23 := (((le5).trans l21).trans l23).trans l22
              have lq23 := l23.trans l22
              have e23p := e23.listP.mono l22
              obtain ⟨n24, hsrc24, hL24⟩ := hbag21
              obtain ⟨rfl, hg24⟩ := Src.split hsrc24
              refine G.callA _ _ (by kernel_rfl) (by kernel_rfl) Tryz.call39 rfl (Src.apart hg24) (srcPick0 (L := [1, 2, 2, 3]) (h.mono le23) hk5 e23p (by simp) (by simp)) ?_
              rintro v24 u24 m24 l24 ⟨kd, hkd, k24, rfl, hk24, rfl⟩ _
              obtain ⟨kn, rfl, hkn1, hkn3⟩ := kinds4 hkd
              have hbag24 : Bag (n24.or (s.M k24)) [s.arr k24, iArr a21 c21 (l5 ++ [T5.length]), aArr ta5 tc5 T5, rArr ra rc R] := ⟨n24, Src.at hg24, hL24⟩
              refine G.buildU 77 2 24 (.agg #[.string (mkS []), .int .i64 0]) [.agg #[.string (mkS (nmA T5.length)), .int .i64 (kn : Int)]] (by kernel_rfl) (attV_ok (nmA T5.length, kn)) rfl (by omega) (by simp) (by simp) ?_
              intro g25 u25 l25 e25
              obtain ⟨mm25, hx25, hput25⟩ := hbag24.focus 2 rfl
              rw [aArr_at] at hx25
              refine G.append 77 2 24 (.agg #[.string (mkS []), .int .i64 0]) mm25 (T5.map attV) [.agg #[.string (mkS (nmA T5.length)), .int .i64 (kn : Int)]] (.slice ta5 T5.length tc5) g25 0 1 1 (by kernel_rfl) rfl rfl (by omega) hx25 e25 (attV_ok (nmA T5.length, kn)) rfl (by omega) (by simp [intsV]; omega) (by simp [intsV]; omega) ?_
              intro w25 mn25 hy25
              rw [show T5.map attV ++ [.agg #[.string (mkS (nmA T5.length)), .int .i64 (kn : Int)]] = (T5 ++ [(nmA T5.length, kn)]).map attV by rw [List.map_append]; rfl] at hy25
              obtain ⟨a25, c25, rfl⟩ := hy25.shape
              rw [List.length_map] at hy25 ⊢
              have hbag25 := hput25 (aArr a25 c25 (T5 ++ [(nmA T5.length, kn)])) mn25 hy25
              simp only [List.set_cons_succ, List.set_cons_zero] at hbag25
              refine G.sub z 1 (z - 1) (by kernel_rfl) (by omega) (by omega) (by omega) ?_
              exact G.back (by kernel_rfl) (hJ2 (z - 1, k24, l5 ++ [T5.length], (a21, c21), T5 ++ [(nmA T5.length, kn)], (a25, c25)) _ _ _ ⟨by kernel_rfl, by kernel_rfl, by kernel_rfl⟩ ((((l5'.trans l21).trans lq23).trans l24).trans l25) ⟨hk24, fun e => by simp at e, by dsimp only; omega, by dsimp only; omega, by dsimp only; rw [List.length_append]; omega, hT5.snoc hkn1 hkn3 hlen, by dsimp only; rw [List.length_append]; exact hl5.snoc, fun a h1 h2 => by
                dsimp only at h2 ⊢
                rw [List.length_append, List.length_singleton] at h2
                rcases Nat.lt_or_ge a T5.length with e | e
                · exact List.mem_append_left _ (hall5 a h1 e)
                · exact List.mem_append_right _ (List.mem_singleton.2 (by omega)), hbag25⟩ (by dsimp only; omega))
          · refine G.lssF (T5.length : Int) 6 (by kernel_rfl) (by omega) ?_
            subst hemp
            refine G.eqlT (([] : List Nat).length : Int) 0 (by kernel_rfl) (by simp) ?_
            refine G.buildU 3 1 8 (.int .i64 0) [.int .i64 ((0 : Nat) : Int)] (by kernel_rfl) (intsV_ok [0]) rfl (by omega) (by simp) (by simp) ?_
            intro g26 u26 l26 e26
            have hl26 : ListP u26 (.slice (some ⟨g26, 0, none⟩) 1 1) 1 (intsV [0]) := e26.listP
            have hbag26 := bag_off hbag5
            refine G.call0 _ _ (by kernel_rfl) Tryz.call38 (letter0 (p := [114]) (i := R.length) (by omega) (by simp)) ?_
            rintro v27 u27 l27 rfl
            refine G.buildU 79 2 40 (.agg #[.string (mkS []), .slice none 0 0]) [.agg #[.string (mkS (nmR R.length)), .slice (some ⟨g26, 0, none⟩) 1 1]] (by kernel_rfl) (relV_ok (nmR R.length, [0], ((some (⟨g26, 0, none⟩ : Addr)), 1))) rfl (by omega) (by simp) (by simp) ?_
            intro g28 u28 l28 e28
            obtain ⟨mm28, hx28, hput28⟩ := hbag26.focus 2 rfl
            rw [rArr_at] at hx28
            refine G.append 79 2 40 (.agg #[.string (mkS []), .slice none 0 0]) mm28 (R.map relV) [.agg #[.string (mkS (nmR R.length)), .slice (some ⟨g26, 0, none⟩) 1 1]] (.slice ra R.length rc) g28 0 1 1 (by kernel_rfl) rfl rfl (by omega) hx28 e28 (relV_ok (nmR R.length, [0], ((some (⟨g26, 0, none⟩ : Addr)), 1))) rfl (by omega) (by simp [intsV]; omega) (by simp [intsV]; omega) ?_
            intro w28 mn28 hy28
            rw [show R.map relV ++ [.agg #[.string (mkS (nmR R.length)), .slice (some ⟨g26, 0, none⟩) 1 1]] = (R ++ [(nmR R.length, [0], ((some (⟨g26, 0, none⟩ : Addr)), 1))]).map relV by rw [List.map_append]; rfl] at hy28
            obtain ⟨a28, c28, rfl⟩ := hy28.shape
            rw [List.length_map] at hy28 ⊢
            have hbag28 := hput28 (rArr a28 c28 (R ++ [(nmR R.length, [0], ((some (⟨g26, 0, none⟩ : Addr)), 1))])) mn28 hy28
            simp only [List.set_cons_succ, List.set_cons_zero] at hbag28
            refine G.add (R.length : Int) 1 ((R.length + 1 : Nat) : Int) (by kernel_rfl) (by omega) (by omega) (by omega) ?_
            have hR28 : ROK u28 T5.length (R ++ [(nmR R.length, [0], ((some (⟨g26, 0, none⟩ : Addr)), 1))]) := by
              refine (hR.mono (lo5 |>.trans l26 |>.trans l27 |>.trans l28)).snoc hTle5 (LOK.zero (by omega)) (by simp) (fun a h1 h2 => ?_) (hl26.mono (l27.trans l28))
              exact absurd (hall5 a h1 h2) (by simp)
            exact G.back (by kernel_rfl) (hJ (R.length + 1, k5, T5, (ta5, tc5), R ++ [(nmR R.length, [0], ((some (⟨g26, 0, none⟩ : Addr)), 1))], (a28, c28)) _ _ _ ⟨by kernel_rfl, by kernel_rfl, by kernel_rfl⟩ (l2.trans (lo5 |>.trans l26 |>.trans l27 |>.trans l28)) ⟨by dsimp only; omega, hk5, hT5, hR28, by simp, fun _ => by dsimp only; omega, hbag28⟩ (by dsimp only; omega))
        · have hle0 : 0 < l5.length := List.length_pos_iff.2 hemp
          refine G.eqlF (l5.length : Int) 0 (by kernel_rfl) (by omega) ?_
          have hpos : 0 < T5.length := by
            obtain ⟨x, hx⟩ := List.exists_mem_of_ne_nil _ hemp
            have := hl5.lt x hx
            omega
          have hl0 : 0 < l5.length := List.length_pos_iff.2 hemp
          refine G.eqlF (l5.length : Int) 0 (by kernel_rfl) (by omega) ?_
          obtain ⟨mL, hxl, hrest⟩ := hbag5.take 1 rfl
          have hbag26 : Bag mL [s.arr k5, aArr ta5 tc5 T5, rArr ra rc R] := hrest
          rw [iArr_at] at hxl
          refine G.give mL (intsV l5) (.slice la5 l5.length lc5) (by kernel_rfl) hxl (fun g => ?_) ?_
          · obtain ⟨n26, hs26, _⟩ := hbag26
            obtain ⟨rfl, _⟩ := Src.split hs26
            exact s.h0or k k5 n26 g
          intro u26 l26 hl26
          refine G.call0 _ _ (by kernel_rfl) Tryz.call38 (letter0 (p := [114]) (i := R.length) (by omega) (by simp)) ?_
          rintro v27 u27 l27 rfl
          refine G.buildU 79 2 40 (.agg #[.string (mkS []), .slice none 0 0]) [.agg #[.string (mkS (nmR R.length)), .slice la5 l5.length lc5]] (by kernel_rfl) (relV_ok (nmR R.length, l5, (la5, lc5))) rfl (by omega) (by simp) (by simp) ?_
          intro g28 u28 l28 e28
          obtain ⟨mm28, hx28, hput28⟩ := hbag26.focus 2 rfl
          rw [rArr_at] at hx28
          refine G.append 79 2 40 (.agg #[.string (mkS []), .slice none 0 0]) mm28 (R.map relV) [.agg #[.string (mkS (nmR R.length)), .slice la5 l5.length lc5]] (.slice ra R.length rc) g28 0 1 1 (by kernel_rfl) rfl rfl (by omega) hx28 e28 (relV_ok (nmR R.length, l5, (la5, lc5))) rfl (by omega) (by simp [intsV]; omega) (by simp [intsV]; omega) ?_
          intro w28 mn28 hy28
          rw [show R.map relV ++ [.agg #[.string (mkS (nmR R.length)), .slice la5 l5.length lc5]] = (R ++ [(nmR R.length, l5, (la5, lc5))]).map relV by rw [List.map_append]; rfl] at hy28
          obtain ⟨a28, c28, rfl⟩ := hy28.shape
          rw [List.length_map] at hy28 ⊢
          have hbag28 := hput28 (rArr a28 c28 (R ++ [(nmR R.length, l5, (la5, lc5))])) mn28 hy28
          simp only [List.set_cons_succ, List.set_cons_zero] at hbag28
          refine G.add (R.length : Int) 1 ((R.length + 1 : Nat) : Int) (by kernel_rfl) (by omega) (by omega) (by omega) ?_
          have hR28 : ROK u28 T5.length (R ++ [(nmR R.length, l5, (la5, lc5))]) := by
            exact (hR.mono (lo5 |>.trans l26 |>.trans l27 |>.trans l28)).snoc hTle5 hl5 hemp hall5 (hl26.mono (l27.trans l28))
          exact G.back (by kernel_rfl) (hJ (R.length + 1, k5, T5, (ta5, tc5), R ++ [(nmR R.length, l5, (la5, lc5))], (a28, c28)) _ _ _ ⟨by kernel_rfl, by kernel_rfl, by kernel_rfl⟩ (l2.trans (lo5 |>.trans l26 |>.trans l27 |>.trans l28)) ⟨by dsimp only; omega, hk5, hT5, hR28, by simp, fun _ => by dsimp only; omega, hbag28⟩ (by dsimp only; omega))
  obtain rfl : R.length = n := by omega
  refine G.lssF (R.length : Int) (R.length : Int) (by kernel_rfl) (by omega) ?_
  have hTpos := h0 (by omega)
  obtain ⟨n0, hsrc, hL⟩ := hbag
  obtain ⟨rfl, hg0⟩ := Src.split hsrc
  refine G.giveP (ma := n0) (sm := s.M k2) (by kernel_rfl) rfl (Src.apart hg0) (s.h0 k k2) ?_
  intro u3 l3 hm3
  have hAL : ListP u3 (.slice ta T.length tc) 2 (T.map attV) := hL.list hm3 0 rfl
  have hRL : ListP u3 (.slice ra R.length rc) 2 (R.map relV) := hL.list hm3 1 rfl
  refine G.loop (ι := Nat × Nat × List Feat × (Option Addr × Nat) × Int) (fun i => [(0, .v s.ptr), (4, .p 0 0), (5, .p 1001 0), (86, .v (.slice ta T.length tc)), (87, .v (.int .i64 (T.length : Int))), (88, .v (.int .i64 (i.1 : Int)))])
    (fun i => [(0, ⟨30, [.v (.slice none 0 0), .v (.slice none 0 0), .v (.slice none 0 0), .v (.int .i64 0)]⟩), (1001, ⟨30, [.v (.slice ta T.length tc), .v (.slice ra R.length rc), .v (.slice i.2.2.2.1.1 i.2.2.1.length i.2.2.2.1.2), .v (.int .i64 i.2.2.2.2)]⟩)])
    (fun i u' m' => i.1 ≤ T.length ∧ i.2.1 ≤ s.n ∧ FOK T i.2.2.1 i.2.2.2.2 i.1 ∧ Bag m' [s.arr i.2.1, fArr i.2.2.2.1.1 i.2.2.2.1.2 i.2.2.1])
    (fun i => T.length - i.1) (0, k2, [], (none, 0), -1) (by kernel_rfl) (fun _ => by kernel_rfl) ⟨by kernel_rfl, by kernel_rfl, by kernel_rfl⟩
    ⟨Nat.zero_le _, hk2, FOK.nil, s.bag0 k2 ⟨PH.mt, ArrAt.nil _ _ _, trivial⟩⟩ ?_
  rintro J1 ⟨a, k3, F, ⟨fa, fc⟩, lab⟩ hJ1 u4 m4 l4 ⟨ha, hk3, hF, hbag4⟩
  simp only at ha hk3 hF hbag4 hJ1
  have le4 := (le2.trans l3).trans l4
  have hFl := hF.len
  by_cases hlt2 : a < T.length
  · refine G.lssT (a : Int) (T.length : Int) (by kernel_rfl) (by omega) ?_
    have hTa : T[a]? = some T[a] := List.getElem?_eq_getElem hlt2
    have hkd := hT.kd _ (List.getElem_mem hlt2)
    obtain ⟨ba, oa, rfl, ea⟩ := ListP.at' (hAL.mono l4) (j := a) (e := attV T[a]) (by simp [hTa])
    generalize T[a] = x at hTa hkd ea
    obtain ⟨nm, kd⟩ := x
    simp only at hkd
    refine G.addr ba oa T.length tc a 2 (by kernel_rfl) hlt2 ?_
    refine G.loadU (some 2) ba (oa + a * 2) (.agg #[.string (mkS nm), .int .i64 (kd : Int)]) (by kernel_rfl) (by kernel_rfl) ea ?_
    by_cases hk2' : kd = 2
    · subst hk2'
      refine G.eqlT ((2 : Nat) : Int) 2 (by kernel_rfl) (by omega) ?_
      by_cases hlab : lab < 0
      · refine G.lssT lab 0 (by kernel_rfl) (by omega) ?_
        obtain ⟨n5, hsrc5, hL5⟩ := hbag4
        obtain ⟨rfl, hg5⟩ := Src.split hsrc5
        refine G.callA _ _ (by kernel_rfl) (by kernel_rfl) Tryz.call37 rfl (Src.apart hg5) (srcN0 (n := 2) (h.mono le4) hk3 (by omega) (by omega)) ?_
        rintro v5 u5 m5 l5 ⟨r5, k5, rfl, hr5, hk5, rfl⟩ _
        have hbag5 : Bag _ [s.arr k5, fArr fa fc F] := ⟨_, Src.at hg5, hL5⟩
        by_cases hr0 : r5 = 0
        · refine G.eqlT (r5 : Int) 0 (by kernel_rfl) (by omega) ?_
          refine G.add (a : Int) 1 ((a + 1 : Nat) : Int) (by kernel_rfl) (by omega) (by omega) (by omega) ?_
          exact G.back (by kernel_rfl) (hJ1 (a + 1, k5, F, (fa, fc), (a : Int)) _ _ _ ⟨by kernel_rfl, by kernel_rfl, by kernel_rfl⟩ (l4.trans l5) ⟨by dsimp only; omega, hk5, hF.lab hTa, hbag5⟩ (by dsimp only; omega))
        · refine G.eqlF (r5 : Int) 0 (by kernel_rfl) (by omega) ?_
          refine G.eqlT ((2 : Nat) : Int) 2 (by kernel_rfl) (by omega) ?_
          have hg11 := hg5
          have hL11 := hL5
          refine G.callA _ _ (by kernel_rfl) (by kernel_rfl) Tryz.call37 rfl (Src.apart hg11) (srcN0 (n := 4) (h.mono (le4.trans l5)) hk5 (by omega) (by omega)) ?_
          rintro v11 u11 m11 l11 ⟨r11, k11, rfl, hr11, hk11, rfl⟩ _
          have hbag11 : Bag _ [s.arr k11, fArr fa fc F] := ⟨_, Src.at hg11, hL11⟩
          by_cases hr1 : 0 < r11
          · refine G.gtrT (r11 : Int) 0 (by kernel_rfl) (by omega) ?_
            have hg12 := hg11
            have hL12 := hL11
            refine G.callA _ _ (by kernel_rfl) (by kernel_rfl) Tryz.call37 rfl (Src.apart hg12) (srcN0 (n := 2) (h.mono ((le4.trans l5).trans l11)) hk11 (by omega) (by omega)) ?_
            rintro v12 u12 m12 l12 ⟨r12, k12, rfl, hr12, hk12, rfl⟩ _
            have hbag12 : Bag _ [s.arr k12, fArr fa fc F] := ⟨_, Src.at hg12, hL12⟩
            refine G.buildU 50 3 24 (.agg #[.int .i64 0, .int .i64 0, .int .i64 0]) [.agg #[.int .i64 (a : Int), .int .i64 ((1 : Nat) : Int), .int .i64 (r12 : Int)]] (by kernel_rfl) (featV_ok (a, 1, r12)) rfl (by omega) (by simp) (by simp) ?_
            intro g13 u13 l13 e13
            obtain ⟨mm13, hx13, hput13⟩ := hbag12.focus 1 rfl
            rw [fArr_at] at hx13
            refine G.append 50 3 24 (.agg #[.int .i64 0, .int .i64 0, .int .i64 0]) mm13 (F.map featV) [.agg #[.int .i64 (a : Int), .int .i64 ((1 : Nat) : Int), .int .i64 (r12 : Int)]] (.slice fa F.length fc) g13 0 1 1 (by kernel_rfl) rfl rfl (by omega) hx13 e13 (featV_ok (a, 1, r12)) rfl (by omega) (by simp [intsV]; omega) (by simp [intsV]; omega) ?_
            intro w13 mn13 hy13
            rw [show F.map featV ++ [.agg #[.int .i64 (a : Int), .int .i64 ((1 : Nat) : Int), .int .i64 (r12 : Int)]] = (F ++ [(a, 1, r12)]).map featV by rw [List.map_append]; rfl] at hy13
            obtain ⟨a13, c13, rfl⟩ := hy13.shape
            rw [List.length_map] at hy13 ⊢
            have hbag13 := hput13 (fArr a13 c13 (F ++ [(a, 1, r12)])) mn13 hy13
            simp only [List.set_cons_succ, List.set_cons_zero] at hbag13
            refine G.add (a : Int) 1 ((a + 1 : Nat) : Int) (by kernel_rfl) (by omega) (by omega) (by omega) ?_
            exact G.back (by kernel_rfl) (hJ1 (a + 1, k12, F ++ [(a, 1, r12)], (a13, c13), lab) _ _ _ ⟨by kernel_rfl, by kernel_rfl, by kernel_rfl⟩ ((((l4.trans l5).trans l11).trans l12).trans l13) ⟨by dsimp only; omega, hk12, hF.put hTa (.inl ⟨rfl, rfl, by omega⟩), hbag13⟩ (by dsimp only; omega))
          · refine G.gtrF (r11 : Int) 0 (by kernel_rfl) (by omega) ?_
            refine G.eqlF ((2 : Nat) : Int) 3 (by kernel_rfl) (by omega) ?_
            refine G.add (a : Int) 1 ((a + 1 : Nat) : Int) (by kernel_rfl) (by omega) (by omega) (by omega) ?_
            exact G.back (by kernel_rfl) (hJ1 (a + 1, k11, F, (fa, fc), lab) _ _ _ ⟨by kernel_rfl, by kernel_rfl, by kernel_rfl⟩ ((l4.trans l5).trans l11) ⟨by dsimp only; omega, hk11, hF.skip, hbag11⟩ (by dsimp only; omega))
      · refine G.lssF lab 0 (by kernel_rfl) (by omega) ?_
        refine G.eqlT ((2 : Nat) : Int) 2 (by kernel_rfl) (by omega) ?_
        obtain ⟨n11, hsrc11, hL11⟩ := hbag4
        obtain ⟨rfl, hg11⟩ := Src.split hsrc11
        refine G.callA _ _ (by kernel_rfl) (by kernel_rfl) Tryz.call37 rfl (Src.apart hg11) (srcN0 (n := 4) (h.mono le4) hk3 (by omega) (by omega)) ?_
        rintro v11 u11 m11 l11 ⟨r11, k11, rfl, hr11, hk11, rfl⟩ _
        have hbag11 : Bag _ [s.arr k11, fArr fa fc F] := ⟨_, Src.at hg11, hL11⟩
        by_cases hr1 : 0 < r11
        · refine G.gtrT (r11 : Int) 0 (by kernel_rfl) (by omega) ?_
          have hg12 := hg11
          have hL12 := hL11
          refine G.callA _ _ (by kernel_rfl) (by kernel_rfl) Tryz.call37 rfl (Src.apart hg12) (srcN0 (n := 2) (h.mono (le4.trans l11)) hk11 (by omega) (by omega)) ?_
          rintro v12 u12 m12 l12 ⟨r12, k12, rfl, hr12, hk12, rfl⟩ _
          have hbag12 : Bag _ [s.arr k12, fArr fa fc F] := ⟨_, Src.at hg12, hL12⟩
          refine G.buildU 50 3 24 (.agg #[.int .i64 0, .int .i64 0, .int .i64 0]) [.agg #[.int .i64 (a : Int), .int .i64 ((1 : Nat) : Int), .int .i64 (r12 : Int)]] (by kernel_rfl) (featV_ok (a, 1, r12)) rfl (by omega) (by simp) (by simp) ?_
          intro g13 u13 l13 e13
          obtain ⟨mm13, hx13, hput13⟩ := hbag12.focus 1 rfl
          rw [fArr_at] at hx13
          refine G.append 50 3 24 (.agg #[.int .i64 0, .int .i64 0, .int .i64 0]) mm13 (F.map featV) [.agg #[.int .i64 (a : Int), .int .i64 ((1 : Nat) : Int), .int .i64 (r12 : Int)]] (.slice fa F.length fc) g13 0 1 1 (by kernel_rfl) rfl rfl (by omega) hx13 e13 (featV_ok (a, 1, r12)) rfl (by omega) (by simp [intsV]; omega) (by simp [intsV]; omega) ?_
          intro w13 mn13 hy13
          rw [show F.map featV ++ [.agg #[.int .i64 (a : Int), .int .i64 ((1 : Nat) : Int), .int .i64 (r12 : Int)]] = (F ++ [(a, 1, r12)]).map featV by rw [List.map_append]; rfl] at hy13
          obtain ⟨a13, c13, rfl⟩ := hy13.shape
          rw [List.length_map] at hy13 ⊢
          have hbag13 := hput13 (fArr a13 c13 (F ++ [(a, 1, r12)])) mn13 hy13
          simp only [List.set_cons_succ, List.set_cons_zero] at hbag13
          refine G.add (a : Int) 1 ((a + 1 : Nat) : Int) (by kernel_rfl) (by omega) (by omega) (by omega) ?_
          exact G.back (by kernel_rfl) (hJ1 (a + 1, k12, F ++ [(a, 1, r12)], (a13, c13), lab) _ _ _ ⟨by kernel_rfl, by kernel_rfl, by kernel_rfl⟩ (((l4.trans l11).trans l12).trans l13) ⟨by dsimp only; omega, hk12, hF.put hTa (.inl ⟨rfl, rfl, by omega⟩), hbag13⟩ (by dsimp only; omega))
        · refine G.gtrF (r11 : Int) 0 (by kernel_rfl) (by omega) ?_
          refine G.eqlF ((2 : Nat) : Int) 3 (by kernel_rfl) (by omega) ?_
          refine G.add (a : Int) 1 ((a + 1 : Nat) : Int) (by kernel_rfl) (by omega) (by omega) (by omega) ?_
          exact G.back (by kernel_rfl) (hJ1 (a + 1, k11, F, (fa, fc), lab) _ _ _ ⟨by kernel_rfl, by kernel_rfl, by kernel_rfl⟩ (l4.trans l11) ⟨by dsimp only; omega, hk11, hF.skip, hbag11⟩ (by dsimp only; omega))
    · refine G.eqlF (kd : Int) 2 (by kernel_rfl) (by omega) ?_
      refine G.eqlF (kd : Int) 2 (by kernel_rfl) (by omega) ?_
      by_cases hk3' : kd = 3
      · subst hk3'
        refine G.eqlT ((3 : Nat) : Int) 3 (by kernel_rfl) (by omega) ?_
        obtain ⟨n5, hsrc5, hL5⟩ := hbag4
        obtain ⟨rfl, hg5⟩ := Src.split hsrc5
        refine G.callA _ _ (by kernel_rfl) (by kernel_rfl) Tryz.call37 rfl (Src.apart hg5) (srcN0 (n := 4) (h.mono le4) hk3 (by omega) (by omega)) ?_
        rintro v5 u5 m5 l5 ⟨r5, k5, rfl, hr5, hk5, rfl⟩ _
        have hbag5 : Bag _ [s.arr k5, fArr fa fc F] := ⟨_, Src.at hg5, hL5⟩
        by_cases hr0 : 0 < r5
        · refine G.gtrT (r5 : Int) 0 (by kernel_rfl) (by omega) ?_
          refine G.buildU 50 3 24 (.agg #[.int .i64 0, .int .i64 0, .int .i64 0]) [.agg #[.int .i64 (a : Int), .int .i64 ((2 : Nat) : Int), .int .i64 ((0 : Nat) : Int)]] (by kernel_rfl) (featV_ok (a, 2, 0)) rfl (by omega) (by simp) (by simp) ?_
          intro g6 u6 l6 e6
          obtain ⟨mm6, hx6, hput6⟩ := hbag5.focus 1 rfl
          rw [fArr_at] at hx6
          refine G.append 50 3 24 (.agg #[.int .i64 0, .int .i64 0, .int .i64 0]) mm6 (F.map featV) [.agg #[.int .i64 (a : Int), .int .i64 ((2 : Nat) : Int), .int .i64 ((0 : Nat) : Int)]] (.slice fa F.length fc) g6 0 1 1 (by kernel_rfl) rfl rfl (by omega) hx6 e6 (featV_ok (a, 2, 0)) rfl (by omega) (by simp [intsV]; omega) (by simp [intsV]; omega) ?_
          intro w6 mn6 hy6
          rw [show F.map featV ++ [.agg #[.int .i64 (a : Int), .int .i64 ((2 : Nat) : Int), .int .i64 ((0 : Nat) : Int)]] = (F ++ [(a, 2, 0)]).map featV by rw [List.map_append]; rfl] at hy6
          obtain ⟨a6, c6, rfl⟩ := hy6.shape
          rw [List.length_map] at hy6 ⊢
          have hbag6 := hput6 (fArr a6 c6 (F ++ [(a, 2, 0)])) mn6 hy6
          simp only [List.set_cons_succ, List.set_cons_zero] at hbag6
          refine G.add (a : Int) 1 ((a + 1 : Nat) : Int) (by kernel_rfl) (by omega) (by omega) (by omega) ?_
          exact G.back (by kernel_rfl) (hJ1 (a + 1, k5, F ++ [(a, 2, 0)], (a6, c6), lab) _ _ _ ⟨by kernel_rfl, by kernel_rfl, by kernel_rfl⟩ ((l4.trans l5).trans l6) ⟨by dsimp only; omega, hk5, hF.put hTa (.inr ⟨rfl, rfl, rfl⟩), hbag6⟩ (by dsimp only; omega))
        · refine G.gtrF (r5 : Int) 0 (by kernel_rfl) (by omega) ?_
          refine G.add (a : Int) 1 ((a + 1 : Nat) : Int) (by kernel_rfl) (by omega) (by omega) (by omega) ?_
          exact G.back (by kernel_rfl) (hJ1 (a + 1, k5, F, (fa, fc), lab) _ _ _ ⟨by kernel_rfl, by kernel_rfl, by kernel_rfl⟩ (l4.trans l5) ⟨by dsimp only; omega, hk5, hF.skip, hbag5⟩ (by dsimp only; omega))
      · refine G.eqlF (kd : Int) 3 (by kernel_rfl) (by omega) ?_
        refine G.add (a : Int) 1 ((a + 1 : Nat) : Int) (by kernel_rfl) (by omega) (by omega) (by omega) ?_
        exact G.back (by kernel_rfl) (hJ1 (a + 1, k3, F, (fa, fc), lab) _ _ _ ⟨by kernel_rfl, by kernel_rfl, by kernel_rfl⟩ l4 ⟨by dsimp only; omega, hk3, hF.skip, hbag4⟩ (by dsimp only; omega))
  obtain rfl : a = T.length := by omega
  refine G.lssF (T.length : Int) (T.length : Int) (by kernel_rfl) (by omega) ?_
  obtain ⟨n5, hsrc5, hL5⟩ := hbag4
  obtain ⟨rfl, hg5⟩ := Src.split hsrc5
  refine G.giveP (ma := n5) (sm := s.M k3) (by kernel_rfl) rfl (Src.apart hg5) (s.h0 k k3) ?_
  intro u5 l5 hm5
  have hFL : ListP u5 (.slice fa F.length fc) 3 (F.map featV) := hL5.list hm5 0 rfl
  refine G.gtrF (F.length : Int) 8 (by kernel_rfl) (by omega) ?_
  exact G.ret (.agg #[.slice ta T.length tc, .slice ra R.length rc, .slice fa F.length fc, .int .i64 lab]) (by kernel_rfl) ⟨T, R, F, lab, k3, ⟨_, _, _, _, _, _, rfl, hAL.mono (l4.trans l5), hRL.mono (l4.trans l5), hFL⟩, sch_ok hT (hR.mono ((l3.trans l4).trans l5)) hF hTpos (by omega) (by omega), hT6, hk3, rfl⟩
end Go.Proofs.YtikfmknnbjocmaaGreatDoor
end
section
set_option linter.unusedSectionVars false
set_option linter.unusedVariables false
namespace Go.Proofs.YtikfmknnbjocmaaGreatDoor
open Go.RowKit Go.MapKept
structure TupOK (T : List (List UInt8 × Nat)) (ss : List (List UInt8)) : Prop where
  len : ss.length = T.length
  val : ∀ (i : Nat) (x : List UInt8 × Nat) (t : List UInt8), T[i]? = some x → ss[i]? = some t → ValOK x.2 t
theorem TupOK.at {T : List (List UInt8 × Nat)} {ss : List (List UInt8)} (h : TupOK T ss) {i : Nat} (hi : i < ss.length) : ∃ x, T[i]? = some x ∧ ValOK x.2 ss[i] := by
  have := h.len
  have e : T[i]? = some (T[i]'(by omega)) := List.getElem?_eq_getElem (by omega)
  exact ⟨_, e, h.val i _ _ e (List.getElem?_eq_getElem hi)⟩
theorem feat_at {T : List (List UInt8 × Nat)} {F : List Feat} {lab : Int} {ss : List (List UInt8)} (hF : FeatOK T F lab) (ht : TupOK T ss) {f : Feat} (hf : f ∈ F) : f.1 < ss.length := by
  obtain ⟨n, k, h, _⟩ := hF.ok f hf
  obtain ⟨h1, _⟩ := List.getElem?_eq_some_iff.1 h
  have := ht.len; omega
theorem lifts_feat {T : List (List UInt8 × Nat)} {F : List Feat} {lab : Int} {ss : List (List UInt8)} (hF : FeatOK T F lab) (ht : TupOK T ss) {i : Nat} {f : Feat} (hf : F[i]? = some f) : (lifts F lab ss)[f.1]? = some (featO i f (ss.getD f.1 [])) := by
  have hm := List.mem_of_getElem? hf
  have hl := feat_at hF ht hm
  obtain ⟨n, k, _, _, hne⟩ := hF.ok f hm
  rw [lifts_at (w := ss[f.1]) (List.getElem?_eq_getElem hl), attO_feat hF.nodup hf hne]
  simp [List.getD_eq_getElem?_getD, List.getElem?_eq_getElem hl]
theorem lifts_lab {F : List Feat} {lab : Int} {ss : List (List UInt8)} {l : Nat} (hl : lab = (l : Int)) (h : l < ss.length) : (lifts F lab ss)[l]? = some (labO (ss.getD l [])) := by
  rw [lifts_at (w := ss[l]) (List.getElem?_eq_getElem h)]
  unfold attO
  rw [if_pos hl.symm]
  simp [List.getD_eq_getElem?_getD, List.getElem?_eq_getElem h]
theorem lifts_small {u : PH} {T : List (List UInt8 × Nat)} {R : List SRel} {F : List Feat} {lab : Int} {ss : List (List UInt8)} (ok : SchOK u T R F lab) (ht : TupOK T ss) : ∀ x ∈ lifts F lab ss, x.Small := fun x hx => by
  obtain ⟨i, hi, rfl⟩ := List.getElem_of_mem hx
  rw [lifts_len] at hi
  have e := lifts_at (F := F) (lab := lab) (w := ss[i]) (List.getElem?_eq_getElem hi)
  rw [List.getElem?_eq_getElem (by rw [lifts_len]; exact hi), Option.some.injEq] at e
  rw [e]
  obtain ⟨y, hy, hv⟩ := ht.at hi
  exact attO_small ok.feat ok.l2 ok.f2 hy hv
end Go.Proofs.YtikfmknnbjocmaaGreatDoor
end
section
set_option linter.unusedSectionVars false
set_option linter.unusedVariables false
namespace Go.Proofs.YtikfmknnbjocmaaGreatDoor
open Go.RowKit Go.MapKept
abbrev SlI : Type := Option Addr × Nat × Nat
set_option maxHeartbeats 16000000 in
theorem ringLifts0 {u : PH} {v : Value} {ts : List Int} (ht : TabU u) (hv : ListP u v 1 (intsZ ts)) (hlo : ∀ t ∈ ts, -9223372036854775808 ≤ t) (hhi : ∀ t ∈ ts, t ≤ 9223372036854775807) :
    Fn0 Tryz.prog 3 [v] u fun v' _ => v' = .bool true := by
  obtain ⟨a, c, rfl⟩ := hv.opn
  rw [intsZ_length] at hv ⊢
  refine Fn0.of Tryz.func3 (by kernel_rfl) (by kernel_rfl) ?_
  by_cases h400 : 400 < ts.length
  · refine G.gtrT (ts.length : Int) 400 (by kernel_rfl) (by omega) ?_
    refine G.call0 _ _ (by kernel_rfl) Tryz.call8 (sane0 ht) ?_
    rintro v1 u1 l1 rfl
    exact G.ret (.bool true) (by kernel_rfl) ⟨rfl, rfl⟩
  refine G.gtrF (ts.length : Int) 400 (by kernel_rfl) (by omega) ?_
  refine G.callO _ _ (by kernel_rfl) Tryz.call9 (srcNew0 hv (by omega) hlo hhi) ?_
  rintro v1 u1 m1 l1 ⟨s, rfl, rfl, hs⟩ _
  rw [mt_or]
  refine G.callA _ _ (by kernel_rfl) (by kernel_rfl) Tryz.call10 (mt_or _).symm (apart_mt _) (srcSchema0 hs (Nat.zero_le _)) ?_
  rintro v2 u2 m2 l2 ⟨T, R, F, lab, k2, hX, ok, hT6, hk2, rfl⟩ _
  rw [mt_or]
  obtain ⟨xa, xc, xb, xd, xe, xf, rfl, hTL, hRL, hFL⟩ := id hX
  refine G.callA _ _ (by kernel_rfl) (by kernel_rfl) Tryz.call11 (mt_or _).symm (apart_mt _) (srcTuple0 (w := .slice xb R.length xd) (x := .slice xe F.length xf) (y := .int .i64 lab) (hs.mono l2) hk2 hTL (by omega) ok.att.kind ⟨_, _, _, rfl⟩ ⟨_, _, _, rfl⟩ ⟨_, rfl⟩) ?_
  rintro v3 u3 m3 l3 ⟨ss, k3, hS, hSl, hSv, hk3, rfl⟩ _
  rw [mt_or]
  obtain ⟨ya, yc, rfl⟩ := hS.opn
  rw [List.length_map] at hS ⊢
  refine G.drop PH.mt (by kernel_rfl) (PH.mt_le _) ?_
  refine G.call0 _ _ (by kernel_rfl) Tryz.call12 ringOne0 ?_
  rintro v4 u4 l4 rfl
  have ht4 := ht.mono (((l1.trans l2).trans l3).trans l4)
  have hX4 := hX.mono (l3.trans l4)
  have ok4 := ok.mono (l3.trans l4)
  have hS4 := hS.mono l4
  have hF4 := hFL.mono (l3.trans l4)
  have hT : TupOK T ss := ⟨hSl, hSv⟩
  have hfeat := ok.feat
  have hl1 := ok.l1
  have hf8 := ok.f2
  have hlt : ∀ l : Nat, lab = (l : Int) → l < ss.length := fun l hl => by
    obtain ⟨n, hn⟩ := ok.l2 l hl
    obtain ⟨h, _⟩ := List.getElem?_eq_some_iff.1 hn
    omega
  have hval : ∀ l : Nat, lab = (l : Int) → ss.getD l [] ≠ [] → SmR (numT (ss.getD l [])) ∧ ratT (numT (ss.getD l [])) = ss.getD l [] := fun l hl h0 => by
    obtain ⟨n, hn⟩ := ok.l2 l hl
    have h := hlt l hl
    have e : ss.getD l [] = ss[l] := by simp [List.getD_eq_getElem?_getD, List.getElem?_eq_getElem h]
    have hv := hSv l _ _ hn (List.getElem?_eq_getElem h)
    rw [← e] at hv
    exact valOK_num2 hv h0
  have hsm := lifts_small ok hT
  clear hX ok hS hFL hTL hRL hv
  refine G.join (ι := Bool) (.bool false) (fun d => [(4, .p 4002 0), (5, .v (.slice ya ss.length yc)), (6, .p 6001 0), (7, .v (.bool d))])
    (fun _ => [(4002, ⟨30, [.v (.slice xa T.length xc), .v (.slice xb R.length xd), .v (.slice xe F.length xf), .v (.int .i64 lab)]⟩), (6001, ⟨38, [.v (.string (mkS (ratT 1))), .v (.slice none 0 0), .v (.slice none 0 0)]⟩)])
    (fun d u' m' => m' = PH.mt ∧ d = (decide (0 ≤ lab) && (ss.getD lab.toNat []).isEmpty)) (fun _ => by kernel_rfl) (by kernel_rfl) ?tail ?way
  case way =>
    intro hjoin
    by_cases hneg : lab < 0
    · refine G.geqF lab 0 (by kernel_rfl) (by omega) ?_
      exact hjoin false _ _ _ (by kernel_rfl) ⟨by kernel_rfl, by kernel_rfl, by kernel_rfl⟩ (PH.le_refl _) ⟨rfl, by rw [decide_eq_false (by omega)]; rfl⟩
    · obtain ⟨l, rfl⟩ : ∃ l : Nat, lab = (l : Int) := ⟨lab.toNat, by omega⟩
      have hll := hlt l rfl
      refine G.geqT (l : Int) 0 (by kernel_rfl) (by omega) ?_
      have hsl : ss.getD l [] = ss[l] := by simp [List.getD_eq_getElem?_getD, List.getElem?_eq_getElem hll]
      obtain ⟨b, off, rfl, e⟩ := ListP.at' hS4 (j := l) (e := .string (mkS ss[l])) (by simp [nmV, List.getElem?_eq_getElem hll])
      rw [← hsl] at e
      refine G.addr b off ss.length yc l 1 (by kernel_rfl) hll ?_
      refine G.loadU none b (off + l * 1) (.string (mkS (ss.getD l []))) (by kernel_rfl) (by kernel_rfl) e ?_
      by_cases h0 : ss.getD l [] = []
      · refine G.eqST (ss.getD l []) [] (by kernel_rfl) h0 ?_
        exact hjoin true _ _ _ (by kernel_rfl) ⟨by kernel_rfl, by kernel_rfl, by kernel_rfl⟩ (PH.le_refl _) ⟨rfl, by rw [Int.toNat_natCast, h0, decide_eq_true (by omega)]; rfl⟩
      · refine G.eqSF (ss.getD l []) [] (by kernel_rfl) h0 ?_
        exact hjoin false _ _ _ (by kernel_rfl) ⟨by kernel_rfl, by kernel_rfl, by kernel_rfl⟩ (PH.le_refl _) ⟨rfl, by
          rw [Int.toNat_natCast, decide_eq_true (by omega)]
          cases hx : ss.getD l [] with
          | nil => exact absurd hx h0
          | cons x y => rfl⟩
  rintro d u5 m5 l5 ⟨rfl, hd⟩
  refine G.mapMk (by kernel_rfl) ?_
  intro g hg1 hg2
  refine G.pub 8001 40 [.map (some g)] (by kernel_rfl) (by kernel_rfl) ?_
  intro bn hbn1 hbn2
  refine G.pastI ?_
  refine G.pub 9000 41 [.slice none 0 0] (by kernel_rfl) (by kernel_rfl) ?_
  intro bl hbl1 hbl2
  have hgn : g ≠ bn := fun e => by subst e; rw [upd_same] at hbn2; cases hbn2
  have hgl : g ≠ bl := fun e => by subst e; rw [upd_ne _ _ hgn, upd_same] at hbl2; cases hbl2
  have hnl : bn ≠ bl := fun e => by subst e; rw [upd_same] at hbl2; cases hbl2
  obtain ⟨mm, hmm, hput⟩ : ∃ mm : PH, mm = (((PH.mt.upd g (.map #[] 0)).upd bn (.cells [Value.map (some g)].toArray 40 (0, 0))).upd bl (.cells [Value.slice none 0 0].toArray 41 (0, 0))) ∧ PutI mm bn bl g [] := by
    refine ⟨_, rfl, none, 0, _, .map #[] 0, [], ?_, upd_same _ _ _, ?_, MapO.empty, fun x hx => by simp at hx, ArrAt.nil _ _ _⟩
    · rw [upd_ne _ _ hnl, upd_same]
    · rw [upd_ne _ _ hgl, upd_ne _ _ hgn, upd_same]
  rw [← hmm]
  obtain ⟨L, hL⟩ : ∃ L, L = lifts F lab ss := ⟨_, rfl⟩
  rw [← hL] at hsm
  have hLl : L.length = ss.length := by rw [hL]; exact lifts_len
  refine G.loop (ι := Nat × SlI × SlI) (fun i => [(4, .p 4002 0), (5, .v (.slice ya ss.length yc)), (6, .p 6001 0), (7, .v (.bool d)), (8, .v (.pointer (some ⟨bn, 0, none⟩))), (9, .v (.pointer (some ⟨bl, 0, none⟩))), (10, .v (.func (.func 13) #[] #[.pointer (some ⟨bn, 0, none⟩), .pointer (some ⟨bl, 0, none⟩)])), (50, .v (.int .i64 (T.length : Int))), (51, .v (.int .i64 (i.1 : Int)))])
    (fun i => [(4002, ⟨30, [.v (.slice xa T.length xc), .v (.slice xb R.length xd), .v (.slice xe F.length xf), .v (.int .i64 lab)]⟩), (6001, ⟨38, [.v (.string (mkS (ratT (prdL (CF.num 1) (L.take i.1)).c))), .v (.slice i.2.1.1 i.2.1.2.1 i.2.1.2.2), .v (.slice i.2.2.1 i.2.2.2.1 i.2.2.2.2)]⟩)])
    (fun i u' m' => i.1 ≤ T.length ∧ CofP u' (.agg #[.string (mkS (ratT (prdL (CF.num 1) (L.take i.1)).c)), .slice i.2.1.1 i.2.1.2.1 i.2.1.2.2, .slice i.2.2.1 i.2.2.2.1 i.2.2.2.2]) (prdL (CF.num 1) (L.take i.1)) (2 ^ i.1 - 1) ∧ m' = mm)
    (fun i => T.length - i.1) (0, (none, 0, 0), (none, 0, 0)) (by kernel_rfl) (fun _ => by kernel_rfl) ⟨by kernel_rfl, by kernel_rfl, by kernel_rfl⟩ ⟨by omega, cofP_num u5 1, rfl⟩ ?_
  rintro J ⟨i, ⟨p1, p2, p3⟩, ⟨p4, p5, p6⟩⟩ hJ u6 m6 l6 ⟨hi, hC, rfl⟩
  simp only at hi hC hJ
  have le6 := l5.trans l6
  by_cases hil : i < T.length
  · refine G.lssT (i : Int) (T.length : Int) (by kernel_rfl) (by omega) ?_
    have his : i < ss.length := by omega
    obtain ⟨b, off, rfl, e⟩ := ListP.at' (hS4.mono le6) (j := i) (e := .string (mkS ss[i])) (by simp [nmV, List.getElem?_eq_getElem his])
    refine G.addr b off ss.length yc i 1 (by kernel_rfl) his ?_
    refine G.loadU none b (off + i * 1) (.string (mkS ss[i])) (by kernel_rfl) (by kernel_rfl) e ?_
    have hTi : T[i]? = some T[i] := List.getElem?_eq_getElem hil
    have hki := ok4.att.kind T[i] (List.getElem_mem hil)
    have hLi : L[i]? = some (attO F lab i ss[i]) := by rw [hL]; exact lifts_at (List.getElem?_eq_getElem his)
    have hLs : (attO F lab i ss[i]).Small := hsm _ (List.mem_of_getElem? hLi)
    refine G.call0 _ _ (by kernel_rfl) Tryz.call14 (liftAll0 (ht4.mono le6) (hX4.mono le6) (ok4.mono le6) hTi (hSv i _ _ hTi (List.getElem?_eq_getElem his)) hki.1 hki.2) ?_
    rintro v7 u7 l7 ⟨w7, rfl, k7⟩
    obtain ⟨a7, n7, e7, a7', n7', e7', rfl⟩ := k7.opn
    refine G.neqF 0 0 (by kernel_rfl) (by omega) ?_
    have hi6 : i < 6 := by omega
    have h2i : 2 ^ i ≤ 2 ^ 6 := Nat.pow_le_pow_right (by omega) (by omega)
    have h1i : 1 ≤ 2 ^ i := Nat.one_le_two_pow
    obtain ⟨g1, g2⟩ := prdL_cfd hsm i (by omega)
    obtain ⟨g3, g4⟩ := prdL_cfd hsm (i + 1) (by omega)
    have hsnoc : prdL (CF.num 1) (L.take (i + 1)) = (prdL (CF.num 1) (L.take i)).mul (attO F lab i ss[i]).cf := by
      rw [List.take_add_one, hLi]; exact prdL_snoc _ _ _
    rw [hsnoc] at g3
    have hsR : CFS ((prdL (CF.num 1) (L.take i)).mul (attO F lab i ss[i]).cf) := g3.cfs (by omega) (pw (pow6 (by omega)))
    refine G.call0 _ _ (by kernel_rfl) Tryz.call15 (ringMul0 (ht4.mono (le6.trans l7)) (hC.mono l7) k7 g2 hLs.cfv (mulOK g1 hLs.cfd (by omega) (pow6' hi6) (Nat.pos_of_ne_zero (by simp)) (by omega)) hsR (by omega) (by omega)) ?_
    rintro v8 u8 l8 ⟨w8, rfl, k8⟩
    obtain ⟨a8, n8, e8, a8', n8', e8', rfl⟩ := k8.opn
    refine G.neqF 0 0 (by kernel_rfl) (by omega) ?_
    refine G.add (i : Int) 1 ((i + 1 : Nat) : Int) (by kernel_rfl) (by omega) (by omega) (by omega) ?_
    rw [← hsnoc] at k8 ⊢
    exact G.back (by kernel_rfl) (hJ (i + 1, (a8, n8, e8), (a8', n8', e8')) _ _ _ ⟨by kernel_rfl, by kernel_rfl, by kernel_rfl⟩ ((l6.trans l7).trans l8) ⟨by dsimp only; omega, k8.up (by dsimp only; rw [Nat.pow_succ]; omega), rfl⟩ (by dsimp only; omega))
  obtain rfl : i = T.length := by omega
  refine G.lssF (T.length : Int) (T.length : Int) (by kernel_rfl) (by omega) ?_
  have htk : L.take T.length = L := by rw [List.take_of_length_le (by omega)]
  rw [htk] at hC ⊢
  have hK : 2 ^ T.length - 1 ≤ 1000 := by
    have : 2 ^ T.length ≤ 2 ^ 6 := Nat.pow_le_pow_right (by omega) (by omega)
    omega
  generalize 2 ^ T.length - 1 = K at hC hK
  clear hJ
  refine G.join (ι := List (Par × Rat)) (.bool false) (fun _ => [(4, .p 4002 0), (5, .v (.slice ya ss.length yc)), (6, .p 6001 0), (7, .v (.bool d)), (8, .v (.pointer (some ⟨bn, 0, none⟩))), (9, .v (.pointer (some ⟨bl, 0, none⟩))), (10, .v (.func (.func 13) #[] #[.pointer (some ⟨bn, 0, none⟩), .pointer (some ⟨bl, 0, none⟩)]))])
    (fun _ => [(4002, ⟨30, [.v (.slice xa T.length xc), .v (.slice xb R.length xd), .v (.slice xe F.length xf), .v (.int .i64 lab)]⟩), (6001, ⟨38, [.v (.string (mkS (ratT (prdL (CF.num 1) L).c))), .v (.slice p1 p2 p3), .v (.slice p4 p5 p6)]⟩)])
    (fun E u' m' => PutI m' bn bl g E ∧ Ent F lab L 0 E d ∧ E.length ≤ 1) (fun _ => by kernel_rfl) (by kernel_rfl) ?tail2 ?way2
  case way2 =>
    intro hjoin
    by_cases hneg : lab < 0
    · rw [decide_eq_false (by omega), Bool.false_and] at hd
      subst hd
      refine G.geqF lab 0 (by kernel_rfl) (by omega) ?_
      exact hjoin [] _ _ _ (by kernel_rfl) ⟨by kernel_rfl, by kernel_rfl, by kernel_rfl⟩ (PH.le_refl _) ⟨hput, Ent.free hneg, by simp⟩
    · obtain ⟨l, rfl⟩ : ∃ l : Nat, lab = (l : Int) := ⟨lab.toNat, by omega⟩
      have hll := hlt l rfl
      have hLl0 : L[l]? = some (labO (ss.getD l [])) := by rw [hL]; exact lifts_lab rfl hll
      rw [decide_eq_true (by omega), Bool.true_and, Int.toNat_natCast] at hd
      refine G.geqT (l : Int) 0 (by kernel_rfl) (by omega) ?_
      by_cases h0 : ss.getD l [] = []
      · rw [h0] at hd hLl0
        obtain rfl : d = true := hd
        exact hjoin [] _ _ _ (by kernel_rfl) ⟨by kernel_rfl, by kernel_rfl, by kernel_rfl⟩ (PH.le_refl _) ⟨hput, Ent.labN rfl hLl0, by simp⟩
      · obtain rfl : d = false := by
          rw [hd]
          cases hx : ss.getD l [] with
          | nil => exact absurd hx h0
          | cons x y => rfl
        obtain ⟨q1, q2⟩ := hval l rfl h0
        have hsl : ss.getD l [] = ss[l] := by simp [List.getD_eq_getElem?_getD, List.getElem?_eq_getElem hll]
        obtain ⟨b, off, rfl, e⟩ := ListP.at' (hS4.mono le6) (j := l) (e := .string (mkS ss[l])) (by simp [nmV, List.getElem?_eq_getElem hll])
        rw [← hsl] at e
        unfold labO at hLl0
        rw [if_neg h0] at hLl0
        have hp := put0 (u := u6) (x := ((-1, []), numT (ss.getD l []))) hput (by simp) (fun y hy => by simp at hy)
        rw [q2] at hp
        refine G.addr b off ss.length yc l 1 (by kernel_rfl) hll ?_
        refine G.loadU none b (off + l * 1) (.string (mkS (ss.getD l []))) (by kernel_rfl) (by kernel_rfl) e ?_
        refine G.callA _ _ (by kernel_rfl) (by kernel_rfl) Tryz.call13 (mt_or _).symm (apart_mt _) hp ?_
        rintro v7 u7 m7 l7 ⟨rfl, hp7⟩ _
        rw [mt_or]
        exact hjoin _ _ _ _ (by kernel_rfl) ⟨by kernel_rfl, by kernel_rfl, by kernel_rfl⟩ l7 ⟨hp7, Ent.labS rfl hLl0, by simp⟩
  rintro E0 u7 m7 l7 ⟨hput7, hE7, hE1⟩
  have le7 := le6.trans l7
  have hC7 := hC.mono l7
  clear hput
  refine G.loop (ι := Nat × List (Par × Rat) × Bool) (fun i => [(4, .p 4002 0), (5, .v (.slice ya ss.length yc)), (6, .p 6001 0), (7, .v (.bool i.2.2)), (8, .v (.pointer (some ⟨bn, 0, none⟩))), (9, .v (.pointer (some ⟨bl, 0, none⟩))), (10, .v (.func (.func 13) #[] #[.pointer (some ⟨bn, 0, none⟩), .pointer (some ⟨bl, 0, none⟩)])), (91, .v (.slice xe F.length xf)), (92, .v (.int .i64 (F.length : Int))), (93, .v (.int .i64 (i.1 : Int)))])
    (fun i => [(4002, ⟨30, [.v (.slice xa T.length xc), .v (.slice xb R.length xd), .v (.slice xe F.length xf), .v (.int .i64 lab)]⟩), (6001, ⟨38, [.v (.string (mkS (ratT (prdL (CF.num 1) L).c))), .v (.slice p1 p2 p3), .v (.slice p4 p5 p6)]⟩)])
    (fun i u' m' => i.1 ≤ F.length ∧ PutI m' bn bl g i.2.1 ∧ Ent F lab L i.1 i.2.1 i.2.2 ∧ i.2.1.length ≤ i.1 + 1)
    (fun i => F.length - i.1) (0, E0, d) (by kernel_rfl) (fun _ => by kernel_rfl) ⟨by kernel_rfl, by kernel_rfl, by kernel_rfl⟩ ⟨by omega, hput7, hE7, by dsimp only; omega⟩ ?_
  rintro J ⟨i, E, d2⟩ hJ u8 m8 l8 ⟨hi, hput8, hE8, hEl⟩
  simp only at hi hput8 hE8 hEl hJ
  have le8 := le7.trans l8
  by_cases hil : i < F.length
  · refine G.lssT (i : Int) (F.length : Int) (by kernel_rfl) (by omega) ?_
    have hFi : F[i]? = some F[i] := List.getElem?_eq_getElem hil
    have hfm := List.getElem_mem hil
    have hLf := lifts_feat hfeat hT hFi
    rw [← hL] at hLf
    have hfl := feat_at hfeat hT hfm
    obtain ⟨fn, fk, hfk, hkind, _⟩ := hfeat.ok _ hfm
    obtain ⟨fb, fo, rfl, ef⟩ := ListP.at' (hF4.mono le8) (j := i) (e := featV F[i]) (by simp [hFi])
    have hnum : F[i].2.1 ≠ 2 → ss.getD F[i].1 [] ≠ [] → SmR (numT (ss.getD F[i].1 [])) ∧ ratT (numT (ss.getD F[i].1 [])) = ss.getD F[i].1 [] := fun h2 h0 => by
      have e : ss.getD F[i].1 [] = ss[F[i].1] := by simp [List.getD_eq_getElem?_getD, List.getElem?_eq_getElem hfl]
      have hv := hSv F[i].1 _ _ hfk (List.getElem?_eq_getElem hfl)
      rw [← e] at hv
      rcases hkind with ⟨_, rfl, _⟩ | ⟨h, _⟩
      · exact valOK_num2 hv h0
      · exact absurd h h2
    generalize F[i] = f at hFi hLf hfl hfk hkind ef hnum
    obtain ⟨f1, f2, f3⟩ := f
    simp only at hLf hfl hfk hkind hnum
    refine G.addr fb fo F.length xf i 3 (by kernel_rfl) hil ?_
    refine G.loadU (some 3) fb (fo + i * 3) (.agg #[.int .i64 (f1 : Int), .int .i64 (f2 : Int), .int .i64 (f3 : Int)]) (by kernel_rfl) (by kernel_rfl) ef ?_
    have hsl : ss.getD f1 [] = ss[f1] := by simp [List.getD_eq_getElem?_getD, List.getElem?_eq_getElem hfl]
    obtain ⟨b, off, rfl, e⟩ := ListP.at' (hS4.mono le8) (j := f1) (e := .string (mkS ss[f1])) (by simp [nmV, List.getElem?_eq_getElem hfl])
    rw [← hsl] at e
    refine G.addr b off ss.length yc f1 1 (by kernel_rfl) hfl ?_
    refine G.loadU none b (off + f1 * 1) (.string (mkS (ss.getD f1 []))) (by kernel_rfl) (by kernel_rfl) e ?_
    generalize ss.getD f1 [] = w at hLf hnum
    unfold featO at hLf
    simp only at hLf
    by_cases hk2 : f2 = 2
    · subst hk2
      rw [if_pos rfl] at hLf
      refine G.eqlT ((2 : Nat) : Int) 2 (by kernel_rfl) (by omega) ?_
      have hp := put0 (u := u8) (x := (((i : Int), w), 1)) hput8 (by omega) (fun y hy he => by
        rw [hL] at hLf hE8; exact hE8.uniq hl1 hLf hy he)
      rw [ratT_one] at hp
      refine G.callA _ _ (by kernel_rfl) (by kernel_rfl) Tryz.call13 (mt_or _).symm (apart_mt _) hp ?_
      rintro v9 u9 m9 l9 ⟨rfl, hp9⟩ _
      rw [mt_or]
      refine G.add (i : Int) 1 ((i + 1 : Nat) : Int) (by kernel_rfl) (by omega) (by omega) (by omega) ?_
      exact G.back (by kernel_rfl) (hJ (i + 1, E ++ [(((i : Int), w), 1)], d2) _ _ _ ⟨by kernel_rfl, by kernel_rfl, by kernel_rfl⟩ (l8.trans l9) ⟨by dsimp only; omega, hp9, hE8.put hFi hLf, by simp; omega⟩ (by dsimp only; omega))
    · rw [if_neg hk2] at hLf
      refine G.eqlF (f2 : Int) 2 (by kernel_rfl) (by omega) ?_
      by_cases hw : w = []
      · subst hw
        rw [if_pos rfl] at hLf
        refine G.eqST [] [] (by kernel_rfl) rfl ?_
        by_cases h3 : f3 = 1
        · subst h3
          rw [if_pos rfl] at hLf
          refine G.eqlT ((1 : Nat) : Int) 1 (by kernel_rfl) (by omega) ?_
          refine G.add (i : Int) 1 ((i + 1 : Nat) : Int) (by kernel_rfl) (by omega) (by omega) (by omega) ?_
          exact G.back (by kernel_rfl) (hJ (i + 1, E, true) _ _ _ ⟨by kernel_rfl, by kernel_rfl, by kernel_rfl⟩ l8 ⟨by dsimp only; omega, hput8, hE8.drop hFi hLf, by dsimp only; omega⟩ (by dsimp only; omega))
        · rw [if_neg h3] at hLf
          refine G.eqlF (f3 : Int) 1 (by kernel_rfl) (by omega) ?_
          refine G.neSF [] [] (by kernel_rfl) rfl ?_
          refine G.add (i : Int) 1 ((i + 1 : Nat) : Int) (by kernel_rfl) (by omega) (by omega) (by omega) ?_
          exact G.back (by kernel_rfl) (hJ (i + 1, E, d2) _ _ _ ⟨by kernel_rfl, by kernel_rfl, by kernel_rfl⟩ l8 ⟨by dsimp only; omega, hput8, hE8.skip hFi hLf, by dsimp only; omega⟩ (by dsimp only; omega))
      · rw [if_neg hw] at hLf
        obtain ⟨q1, q2⟩ := hnum hk2 hw
        refine G.eqSF w [] (by kernel_rfl) hw ?_
        refine G.neST w [] (by kernel_rfl) hw ?_
        have hp := put0 (u := u8) (x := (((i : Int), []), numT w)) hput8 (by omega) (fun y hy he => by
          rw [hL] at hLf hE8; exact hE8.uniq hl1 hLf hy he)
        rw [q2] at hp
        refine G.callA _ _ (by kernel_rfl) (by kernel_rfl) Tryz.call13 (mt_or _).symm (apart_mt _) hp ?_
        rintro v9 u9 m9 l9 ⟨rfl, hp9⟩ _
        rw [mt_or]
        refine G.add (i : Int) 1 ((i + 1 : Nat) : Int) (by kernel_rfl) (by omega) (by omega) (by omega) ?_
        exact G.back (by kernel_rfl) (hJ (i + 1, E ++ [(((i : Int), []), numT w)], d2) _ _ _ ⟨by kernel_rfl, by kernel_rfl, by kernel_rfl⟩ (l8.trans l9) ⟨by dsimp only; omega, hp9, hE8.put hFi hLf, by simp; omega⟩ (by dsimp only; omega))
  obtain rfl : i = F.length := by omega
  refine G.lssF (F.length : Int) (F.length : Int) (by kernel_rfl) (by omega) ?_
  refine G.giveP (ma := m8) (sm := PH.mt) (by kernel_rfl) (or_mt _).symm (fun g => .inr rfl) (fun g => .inl rfl) ?_
  intro u9 l9 hm9
  have le9 := le8.trans l9
  have hC9 := (hC7.mono l8).mono l9
  obtain ⟨la, lc, m0, o, lk, hn, hb, hg, ho, hlk, harr⟩ := hput8
  have hbn := hm9 _ _ (harr.see hn)
  have hbl := hm9 _ _ (harr.see hb)
  have hgo := hm9 _ _ (harr.see hg)
  have hEL := harr.list hm9
  have cbn : ElP u9 bn 0 (.map (some g)) := elP_of (xs := [.map (some g)]) hbn rfl
  have cbl : ElP u9 bl 0 (.slice la E.length lc) := elP_of (xs := [.slice la E.length lc]) hbl rfl
  clear hJ
  cases d2 with
  | true =>
    have hz : prdL (CF.num 1) L = CF.num 0 := prdL_none (hE8.d1 rfl)
    refine G.call0 _ _ (by kernel_rfl) Tryz.call17 ringZero0 ?_
    rintro v10 u10 l10 rfl
    have hC0 : CofP u10 (.agg #[.string (mkS (ratT 0)), .slice none 0 0, .slice none 0 0]) (prdL (CF.num 1) L) 0 := by rw [hz]; exact cofP_num u10 0
    refine G.call0 _ _ (by kernel_rfl) Tryz.call16 (same0 (hC9.mono l10) hC0 (by omega)) ?_
    rintro v11 u11 l11 rfl
    refine G.call0 _ _ (by kernel_rfl) Tryz.call8 (sane0 (ht4.mono ((le9.trans l10).trans l11))) ?_
    rintro v12 u12 l12 rfl
    exact G.ret (.bool true) (by kernel_rfl) ⟨rfl, rfl⟩
  | false =>
    rw [hL] at hE8
    obtain ⟨hone, hsE, hs0⟩ := hE8.prod hl1
    have hsnd := hE8.snd
    rw [← hL] at hone hsE hs0 hsnd
    have hEsm : ∀ x ∈ E, SmR x.2 := fun x hx => (hsm _ (hsnd x hx)).1
    generalize prdL (CF.num 1) L = C at hC9 hone hsE hs0 ⊢
    refine G.neSF (ratT C.c) [49] (by kernel_rfl) (by rw [hone.c, ratT_one]) ?_
    refine G.loadU none bl 0 (.slice la E.length lc) (by kernel_rfl) (by kernel_rfl) cbl ?_
    refine G.loop (ι := Nat) (fun i => [(6, .p 6001 0), (8, .v (.pointer (some ⟨bn, 0, none⟩))), (9, .v (.pointer (some ⟨bl, 0, none⟩))), (139, .v (.slice la E.length lc)), (140, .v (.int .i64 (E.length : Int))), (141, .v (.int .i64 (i : Int)))])
      (fun i => [(6001, ⟨38, [.v (.string (mkS (ratT C.c))), .v (.slice p1 p2 p3), .v (.slice p4 p5 p6)]⟩)])
      (fun i u' m' => i ≤ E.length ∧ m' = PH.mt) (fun i => E.length - i) 0 (by kernel_rfl) (fun _ => by kernel_rfl) ⟨by kernel_rfl, by kernel_rfl, by kernel_rfl⟩ ⟨by omega, rfl⟩ ?_
    rintro J i hJ u10 m10 l10 ⟨hi, rfl⟩
    have le10 := le9.trans l10
    by_cases hil : i < E.length
    · refine G.lssT (i : Int) (E.length : Int) (by kernel_rfl) (by omega) ?_
      have hEi : E[i]? = some E[i] := List.getElem?_eq_getElem hil
      have hx1 := hlk _ (List.getElem_mem hil)
      have hx2 := hsE _ (List.getElem_mem hil)
      have hx3 := hEsm _ (List.getElem_mem hil)
      obtain ⟨b, off, rfl, e⟩ := ListP.at' (hEL.mono l10) (j := i) (e := parV E[i].1) (by simp [hEi])
      generalize E[i] = x at hEi hx1 hx2 hx3 e
      obtain ⟨p, q⟩ := x
      simp only at hx1 hx2 hx3 e
      refine G.addr b off E.length lc i 2 (by kernel_rfl) hil ?_
      refine G.loadU (some 2) b (off + i * 2) (.agg #[.int .i64 p.1, .string (mkS p.2)]) (by kernel_rfl) (by kernel_rfl) e ?_
      refine G.loadU none bn 0 (.map (some g)) (by kernel_rfl) (by kernel_rfl) (cbn.mono l10) ?_
      refine G.mapIs (et := 34) keyPar (.string (mkS [])) g o lk p (.string (mkS (ratT q))) (by kernel_rfl) (by kernel_rfl) (.inl (l10 _ _ hgo)) ho hx1 ?_
      refine G.call0 _ _ (by kernel_rfl) Tryz.call18 (sum0 p (hC9.mono l10) (by omega)) ?_
      rintro v11 u11 l11 rfl
      refine G.neSF (ratT (C.s p)) (ratT q) (by kernel_rfl) (by rw [hx2]) ?_
      refine G.loadU none bl 0 (.slice (some ⟨b, off, none⟩) E.length lc) (by kernel_rfl) (by kernel_rfl) (cbl.mono (l10.trans l11)) ?_
      refine G.loop (ι := Nat) (fun j => [(6, .p 6001 0), (8, .v (.pointer (some ⟨bn, 0, none⟩))), (9, .v (.pointer (some ⟨bl, 0, none⟩))), (18, .p 40002 0), (139, .v (.slice (some ⟨b, off, none⟩) E.length lc)), (140, .v (.int .i64 (E.length : Int))), (141, .v (.int .i64 (i : Int))), (152, .v (.slice (some ⟨b, off, none⟩) E.length lc)), (153, .v (.int .i64 (E.length : Int))), (154, .v (.int .i64 (j : Int)))])
        (fun _ => [(6001, ⟨38, [.v (.string (mkS (ratT C.c))), .v (.slice p1 p2 p3), .v (.slice p4 p5 p6)]⟩), (40002, ⟨43, [.v (.int .i64 p.1), .v (.string (mkS p.2))]⟩)])
        (fun j u' m' => j ≤ E.length ∧ m' = PH.mt) (fun j => E.length - j) 0 (by kernel_rfl) (fun _ => by kernel_rfl) ⟨by kernel_rfl, by kernel_rfl, by kernel_rfl⟩ ⟨by omega, rfl⟩ ?_
      rintro J2 j hJ2 u12 m12 l12 ⟨hj, rfl⟩
      have l12' := (l10.trans l11).trans l12
      by_cases hjl : j < E.length
      · refine G.lssT (j : Int) (E.length : Int) (by kernel_rfl) (by omega) ?_
        have hEj : E[j]? = some E[j] := List.getElem?_eq_getElem hjl
        have hy1 := hlk _ (List.getElem_mem hjl)
        have hy2 := hsE _ (List.getElem_mem hjl)
        have hy3 := hEsm _ (List.getElem_mem hjl)
        obtain ⟨_, _, e2, ey⟩ := ListP.at' (hEL.mono l12') (j := j) (e := parV E[j].1) (by simp [hEj])
        cases e2
        generalize E[j] = y at hEj hy1 hy2 hy3 ey
        obtain ⟨p', q'⟩ := y
        simp only at hy1 hy2 hy3 ey
        refine G.addr b off E.length lc j 2 (by kernel_rfl) hjl ?_
        refine G.loadU (some 2) b (off + j * 2) (.agg #[.int .i64 p'.1, .string (mkS p'.2)]) (by kernel_rfl) (by kernel_rfl) ey ?_
        refine G.loadU none bn 0 (.map (some g)) (by kernel_rfl) (by kernel_rfl) (cbn.mono l12') ?_
        refine G.mapIs (et := 34) keyPar (.string (mkS [])) g o lk p (.string (mkS (ratT q))) (by kernel_rfl) (by kernel_rfl) (.inl (l12' _ _ hgo)) ho hx1 ?_
        refine G.loadU none bn 0 (.map (some g)) (by kernel_rfl) (by kernel_rfl) (cbn.mono l12') ?_
        refine G.mapIs (et := 34) keyPar (.string (mkS [])) g o lk p' (.string (mkS (ratT q'))) (by kernel_rfl) (by kernel_rfl) (.inl (l12' _ _ hgo)) ho hy1 ?_
        have hqq : SB (q * q') := (hx3.dn.mul hy3.dn).small (by omega) (pw (by decide +kernel))
        refine G.call0 _ _ (by kernel_rfl) Tryz.call19 (refMulT hx3.tx hy3.tx hqq.tx) ?_
        rintro v13 u13 l13 rfl
        refine G.call0 _ _ (by kernel_rfl) Tryz.call20 (product0 p p' (hC9.mono (l12'.trans l13)) (by omega)) ?_
        rintro v14 u14 l14 rfl
        refine G.neSF (ratT (C.t (pairP p p'))) (ratT (q * q')) (by kernel_rfl) (by rw [hone.pair, hx2, hy2]) ?_
        refine G.call0 _ _ (by kernel_rfl) Tryz.call20 (product0 p' p (hC9.mono ((l12'.trans l13).trans l14)) (by omega)) ?_
        rintro v15 u15 l15 rfl
        refine G.neSF (ratT (C.t (pairP p' p))) (ratT (q * q')) (by kernel_rfl) (by rw [hone.pair, hx2, hy2, Rat.mul_comm]) ?_
        refine G.add (j : Int) 1 ((j + 1 : Nat) : Int) (by kernel_rfl) (by omega) (by omega) (by omega) ?_
        exact G.back (by kernel_rfl) (hJ2 (j + 1) _ _ _ ⟨by kernel_rfl, by kernel_rfl, by kernel_rfl⟩ (((l12.trans l13).trans l14).trans l15) ⟨by omega, rfl⟩ (by omega))
      · obtain rfl : j = E.length := by omega
        refine G.lssF (E.length : Int) (E.length : Int) (by kernel_rfl) (by omega) ?_
        refine G.add (i : Int) 1 ((i + 1 : Nat) : Int) (by kernel_rfl) (by omega) (by omega) (by omega) ?_
        exact G.back (by kernel_rfl) (hJ (i + 1) _ _ _ ⟨by kernel_rfl, by kernel_rfl, by kernel_rfl⟩ l12' ⟨by omega, rfl⟩ (by omega))
    · obtain rfl : i = E.length := by omega
      refine G.lssF (E.length : Int) (E.length : Int) (by kernel_rfl) (by omega) ?_
      obtain ⟨Tc, Qc, b1, d1, b2, d2, hce, hTc, hQc, cT, cQ, kT, kQ⟩ := hC9
      have hp2 : p2 = Tc.length := by simp at hce; exact hce.1.2.1
      have hlen : Tc.length ≤ E.length := by
        have := can_len (ks := E.map (·.1)) cT hs0
        rwa [List.length_map] at this
      refine G.loadU none bl 0 (.slice la E.length lc) (by kernel_rfl) (by kernel_rfl) (cbl.mono l10) ?_
      refine G.leqT (p2 : Int) (E.length : Int) (by kernel_rfl) (by omega) ?_
      refine G.call0 _ _ (by kernel_rfl) Tryz.call8 (sane0 (ht4.mono le10)) ?_
      rintro v11 u11 l11 rfl
      exact G.ret (.bool true) (by kernel_rfl) ⟨rfl, rfl⟩
end Go.Proofs.YtikfmknnbjocmaaGreatDoor
end
