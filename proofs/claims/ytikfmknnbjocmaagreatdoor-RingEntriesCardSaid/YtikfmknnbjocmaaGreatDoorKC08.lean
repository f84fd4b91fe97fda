/- Joined out of parts of one proof by a program: contracts of the functions that the statement reaches, and the plain facts behind them. -/
import Derived.Test.YtikfmknnbjocmaaGreatDoorKC07
import Derived.Laws.StructEq
set_option linter.unusedVariables false
set_option linter.unusedSimpArgs false
set_option linter.unusedSectionVars false
section
set_option linter.unusedSectionVars false
set_option linter.unusedVariables false
set_option linter.unusedSimpArgs false
namespace Go.Proofs.YtikfmknnbjocmaaGreatDoor
variable [Flag]
def blk1 (g : Nat) (o : Obj) : PH := PH.mt.upd g o
def PH.del (m : PH) (g : Nat) : PH := fun h => if h = g then none else m h
theorem blk1_same (g : Nat) (o : Obj) : blk1 g o g = some o := upd_same _ _ _
theorem blk1_ne {g h : Nat} (o : Obj) (hn : h ≠ g) : blk1 g o h = none := by unfold blk1; rw [upd_ne _ _ hn]; rfl
theorem split_one {m : PH} {g : Nat} {o : Obj} (h : m g = some o) : m = (m.del g).or (blk1 g o) ∧ Apart (m.del g) (blk1 g o) := by
  constructor
  · funext k
    by_cases e : k = g
    · subst e
      rw [PH.or_r (by simp [PH.del]), blk1_same, h]
    · cases hk : m k with
      | none => rw [PH.or_r (by simp [PH.del, e, hk]), blk1_ne o e]
      | some p => rw [PH.or_l (o := p) (by simp [PH.del, e, hk])]
  · intro k
    by_cases e : k = g
    · left; simp [PH.del, e]
    · right; exact blk1_ne o e
theorem join_one {m : PH} {g : Nat} {o : Obj} : (m.del g).or (blk1 g o) = m.upd g o := by
  funext k
  by_cases e : k = g
  · subst e; rw [PH.or_r (by simp [PH.del]), blk1_same, upd_same]
  · rw [upd_ne _ _ e]
    cases hk : m k with
    | none => rw [PH.or_r (by simp [PH.del, e, hk]), blk1_ne o e]
    | some p => rw [PH.or_l (o := p) (by simp [PH.del, e, hk])]
section
variable {P : Program} [Mixed P] {fn : Func} {Post : Spec} {st : List KI × S} {u m : PH}
theorem G.callG (f : Nat) (args : List Value) {g : Nat} {o : Obj} {R : Value → PH → Obj → Prop} (h : stopV P (adv P st) = .call f args) (hdr : noDr (adv P st) = true) (hc : ∀ args w, (callFunc f args).run P w = .ok (.enter f args) w) (hg : m g = some o)
    (c : Contract P f args u (blk1 g o) (fun v u' m' => ∃ o', m' = blk1 g o' ∧ R v u' o')) (k : ∀ v u' o', PH.le u u' → R v u' o' → G P fn Post (nx (adv P st) v) u' (m.upd g o')) : G P fn Post st u m := by
  obtain ⟨h1, h2⟩ := split_one hg
  refine G.callA f args h hdr hc h1 h2 c ?_
  rintro v u' m' hl ⟨o', rfl, hR⟩ _
  rw [join_one]
  exact k v u' o' hl hR
theorem Contract.giveAll {f : FuncId} {args : List Value} {R : Value → PH → PH → Prop} (c : Contract P f args u PH.mt R) : Fn0 P f args u (fun v u' => ∃ u1 m1, PH.le u1 u' ∧ PH.le m1 u' ∧ R v u1 m1) := by
  intro w hg
  refine Calls.mono (c w hg) fun e w' he => ?_
  obtain ⟨v, u', m', e1, e2, e3, e4⟩ := he
  have hle : PH.le u' (m'.or u') := fun g o hh => by
    cases hx : m' g with
    | none => rw [PH.or_r hx]; exact hh
    | some p => have := (e2.ap g).resolve_right (by rw [hx]; simp); rw [this] at hh; cases hh
  refine ⟨v, m'.or u', PH.mt, e1, ⟨fun g o hh => ?_, Part.mt _, fun g => .inr rfl, fun g cs t fr j z hh hj => ?_⟩, ⟨e3.sz, e3.old, fun g hgl => ?_, fun _ _ _ => rfl, e3.io, e3.dr⟩, rfl, u', m', hle, fun g o hh => PH.or_l hh, e4⟩
  · cases hx : m' g with
    | none => rw [PH.or_r hx] at hh; exact e2.pu g o hh
    | some p => rw [PH.or_l hx] at hh; cases hh; exact e2.pm g _ hx
  · exact hle g _ (e2.cl g cs t fr j z hh hj)
  · rw [PH.or_r (e3.ms g hgl rfl)]; exact e3.us g hgl
end
def MapR {κ : Type} (enc : κ → Value) (R : PH → Value → Rat → Prop) (nz : Bool) (u : PH) (o : Obj) (f : κ → Rat) (N s : Nat) : Prop :=
  ∃ l : List (κ × Value), MapO enc o l ∧ (∀ p ∈ l, R u p.2 (f p.1) ∧ (nz = true → f p.1 ≠ 0) ∧ Sz (f p.1) s) ∧ (∀ k, k ∉ l.map (·.1) → f k = 0) ∧ l.length ≤ N
section
variable {κ : Type} [DecidableEq κ] {enc : κ → Value} {R : PH → Value → Rat → Prop} {nz : Bool} {u : PH} {o : Obj} {f : κ → Rat} {N s : Nat}
theorem MapR.up {N' s' : Nat} (h : MapR enc R nz u o f N s) (hN : N ≤ N') (hs : s ≤ s') : MapR enc R nz u o f N' s' := by
  obtain ⟨l, h1, h2, h3, h4⟩ := h
  exact ⟨l, h1, fun p hp => ⟨(h2 p hp).1, (h2 p hp).2.1, (h2 p hp).2.2.mono hs⟩, h3, Nat.le_trans h4 hN⟩
theorem MapR.congr {f' : κ → Rat} (h : MapR enc R nz u o f N s) (e : ∀ k, f k = f' k) : MapR enc R nz u o f' N s := by
  rw [← funext e]; exact h
theorem MapR.empty (s : Nat) : MapR enc R nz u (.map #[] 0) (fun _ => 0) 0 s := ⟨[], MapO.empty, by simp, fun _ _ => rfl, Nat.le_refl _⟩
theorem assoc_mem {a : κ} : ∀ {l : List (κ × Value)} {v : Value}, assoc a l = some v → (a, v) ∈ l
  | (b, w) :: l, v, h => by
    unfold assoc at h
    split at h
    · rename_i e; cases h; rw [e]; simp
    · exact List.mem_cons_of_mem _ (assoc_mem h)
theorem assoc_of_mem {a : κ} : ∀ {l : List (κ × Value)} {v : Value}, (l.map (·.1)).Nodup → (a, v) ∈ l → assoc a l = some v
  | (b, w) :: l, v, hn, h => by
    simp only [List.map_cons, List.nodup_cons] at hn
    unfold assoc
    rcases List.mem_cons.1 h with e | e
    · cases e; rw [if_pos rfl]
    · have : a ≠ b := fun e' => hn.1 (by rw [← e']; exact List.mem_map.2 ⟨_, e, rfl⟩)
      rw [if_neg this]; exact assoc_of_mem hn.2 e
theorem mem_putK {a : κ} {x : Value} : ∀ {l : List (κ × Value)} {p : κ × Value}, (l.map (·.1)).Nodup → p ∈ putK a x l → p = (a, x) ∨ (p ∈ l ∧ p.1 ≠ a)
  | [], p, _, h => by simp [putK] at h; exact .inl h
  | (b, w) :: l, p, hn, h => by
    simp only [List.map_cons, List.nodup_cons] at hn
    unfold putK at h
    split at h
    · rename_i e
      subst e
      rcases List.mem_cons.1 h with h | h
      · exact .inl h
      · refine .inr ⟨List.mem_cons_of_mem _ h, fun e' => hn.1 ?_⟩
        rw [← e']; exact List.mem_map.2 ⟨p, h, rfl⟩
    · rename_i e
      rcases List.mem_cons.1 h with h | h
      · subst h; exact .inr ⟨by simp, fun e' => e e'.symm⟩
      · rcases mem_putK hn.2 h with h | ⟨h, h'⟩
        · exact .inl h
        · exact .inr ⟨List.mem_cons_of_mem _ h, h'⟩
theorem keys_putK {a : κ} {x : Value} {k : κ} : ∀ {l : List (κ × Value)}, k ∈ (putK a x l).map (·.1) ↔ k = a ∨ k ∈ l.map (·.1)
  | [] => by simp [putK]
  | (b, w) :: l => by
    unfold putK
    split
    · rename_i e; subst e; simp
    · simp only [List.map_cons, List.mem_cons, keys_putK (l := l)]
      constructor
      · rintro (h | h | h)
        · exact .inr (.inl h)
        · exact .inl h
        · exact .inr (.inr h)
      · rintro (h | h | h)
        · exact .inr (.inl h)
        · exact .inl h
        · exact .inr (.inr h)
theorem length_putK {a : κ} {x : Value} : ∀ {l : List (κ × Value)}, (putK a x l).length ≤ l.length + 1
  | [] => by simp [putK]
  | (b, w) :: l => by
    unfold putK
    split
    · simp
    · have := length_putK (a := a) (x := x) (l := l); simp; omega
theorem mem_delK {a : κ} : ∀ {l : List (κ × Value)} {p : κ × Value}, (l.map (·.1)).Nodup → (p ∈ delK a l ↔ p ∈ l ∧ p.1 ≠ a)
  | [], p, _ => by simp [delK]
  | (b, w) :: l, p, hn => by
    simp only [List.map_cons, List.nodup_cons] at hn
    unfold delK
    split
    · rename_i e
      subst e
      constructor
      · intro h
        refine ⟨List.mem_cons_of_mem _ h, fun e' => hn.1 ?_⟩
        rw [← e']; exact List.mem_map.2 ⟨p, h, rfl⟩
      · rintro ⟨h, h'⟩
        rcases List.mem_cons.1 h with h | h
        · subst h; exact absurd rfl h'
        · exact h
    · rename_i e
      simp only [List.mem_cons, mem_delK hn.2]
      constructor
      · rintro (h | ⟨h, h'⟩)
        · subst h; exact ⟨.inl rfl, fun e' => e e'.symm⟩
        · exact ⟨.inr h, h'⟩
      · rintro ⟨h | h, h'⟩
        · exact .inl h
        · exact .inr ⟨h, h'⟩
theorem length_delK {a : κ} : ∀ {l : List (κ × Value)}, (delK a l).length ≤ l.length
  | [] => by simp [delK]
  | (b, w) :: l => by
    unfold delK
    split
    · simp
    · have := length_delK (a := a) (l := l); simp; omega
def setF (f : κ → Rat) (a : κ) (q : Rat) : κ → Rat := fun k => if k = a then q else f k
theorem MapR.put {o' : Obj} {a : κ} {x : Value} {q : Rat} {l : List (κ × Value)} (ho : MapO enc o l) (h2 : ∀ p ∈ l, R u p.2 (f p.1) ∧ (nz = true → f p.1 ≠ 0) ∧ Sz (f p.1) s) (h3 : ∀ k, k ∉ l.map (·.1) → f k = 0) (h4 : l.length ≤ N)
    (h' : MapO enc o' (putK a x l)) (hx : R u x q) (hq : nz = true → q ≠ 0) {s' : Nat} (hs : Sz q s') (hss : s ≤ s') : MapR enc R nz u o' (setF f a q) (N + 1) s' := by
  refine ⟨_, h', fun p hp => ?_, fun k hk => ?_, Nat.le_trans length_putK (by omega)⟩
  · unfold setF
    rcases mem_putK ho.nodup hp with rfl | ⟨hp, hne⟩
    · simp only [if_true]; exact ⟨hx, hq, hs⟩
    · rw [if_neg hne]; exact ⟨(h2 p hp).1, (h2 p hp).2.1, (h2 p hp).2.2.mono hss⟩
  · rw [keys_putK, not_or] at hk
    unfold setF; rw [if_neg hk.1]; exact h3 k hk.2
theorem MapR.drop {o' : Obj} {a : κ} {l : List (κ × Value)} (ho : MapO enc o l) (h2 : ∀ p ∈ l, R u p.2 (f p.1) ∧ (nz = true → f p.1 ≠ 0) ∧ Sz (f p.1) s) (h3 : ∀ k, k ∉ l.map (·.1) → f k = 0) (h4 : l.length ≤ N)
    (h' : MapO enc o' (delK a l)) : MapR enc R nz u o' (setF f a 0) N s := by
  refine ⟨_, h', fun p hp => ?_, fun k hk => ?_, Nat.le_trans length_delK h4⟩
  · obtain ⟨hp, hne⟩ := (mem_delK ho.nodup).1 hp
    unfold setF; rw [if_neg hne]; exact h2 p hp
  · unfold setF
    split
    · rfl
    · rename_i hne
      refine h3 k fun hm => hk ?_
      obtain ⟨p, hp, rfl⟩ := List.mem_map.1 hm
      exact List.mem_map.2 ⟨p, (mem_delK ho.nodup).2 ⟨hp, hne⟩, rfl⟩
end
end Go.Proofs.YtikfmknnbjocmaaGreatDoor
end
section
set_option linter.unusedSectionVars false
set_option linter.unusedVariables false
set_option linter.unusedSimpArgs false
namespace Go.Proofs.YtikfmknnbjocmaaGreatDoor
variable [Flag]
open Go.MapKept
theorem eq_of_map {α β : Type} (f : α → β) : ∀ {l : List α} {x y : α}, (l.map f).Nodup → x ∈ l → y ∈ l → f x = f y → x = y
  | [], _, _, _, h, _, _ => by simp at h
  | a :: l, x, y, hn, hx, hy, e => by
    simp only [List.map_cons, List.nodup_cons] at hn
    rcases List.mem_cons.1 hx with e0 | hx
    · subst e0
      rcases List.mem_cons.1 hy with e' | hy
      · exact e'.symm
      · exact absurd (List.mem_map.2 ⟨y, hy, e.symm⟩) hn.1
    · rcases List.mem_cons.1 hy with e' | hy
      · rw [e'] at e; exact absurd (List.mem_map.2 ⟨x, hx, e⟩) hn.1
      · exact eq_of_map f hn.2 hx hy e
theorem len_of_sub {α β : Type} (f : α → β) : ∀ {L l : List α}, (L.map f).Nodup → (∀ p ∈ L, p ∈ l) → L.length ≤ l.length
  | [], _, _, _ => Nat.zero_le _
  | a :: L, l, hn, hs => by
    simp only [List.map_cons, List.nodup_cons] at hn
    obtain ⟨s, t, rfl⟩ := List.append_of_mem (hs a (by simp))
    have := len_of_sub f (L := L) (l := s ++ t) hn.2 (fun p hp => by
      have h1 := hs p (by simp [hp])
      have hne : p ≠ a := fun e => hn.1 (by rw [← e]; exact List.mem_map.2 ⟨p, hp, rfl⟩)
      simp only [List.mem_append, List.mem_cons] at h1 ⊢
      rcases h1 with h | h | h
      · exact .inl h
      · exact absurd h hne
      · exact .inr h)
    simp only [List.length_append, List.length_cons] at this ⊢
    omega
section
variable {κ : Type} [DecidableEq κ] {enc : κ → Value}
structure Seen (enc : κ → Value) (es : Array MapEntry) (l : List (κ × Value)) (D : List MapEntry) (L : List (κ × Value)) : Prop where
  it : ItOK es D
  kv : D.map (fun e => (e.key, e.val)) = L.map (fun p => (enc p.1, p.2))
  sub : ∀ p ∈ L, p ∈ l
  nod : (L.map (·.1)).Nodup
theorem Seen.nil (es : Array MapEntry) (l : List (κ × Value)) : Seen enc es l [] [] := ⟨ItOK.nil es, rfl, by simp, by simp⟩
theorem Seen.snoc (hinj : ∀ a b, enc a = enc b → a = b) {es : Array MapEntry} {l : List (κ × Value)} {D : List MapEntry} {L : List (κ × Value)} (hl : es.toList.map (fun e => (e.key, e.val)) = l.map (fun p => (enc p.1, p.2))) (hn : (l.map (·.1)).Nodup)
    (h : Seen enc es l D L) {e : MapEntry} (he : e ∈ es.toList) (hi : ItOK es (D ++ [e])) : ∃ p, p ∈ l ∧ e.key = enc p.1 ∧ e.val = p.2 ∧ p.1 ∉ L.map (·.1) ∧ Seen enc es l (D ++ [e]) (L ++ [p]) := by
  have h1 : (e.key, e.val) ∈ l.map (fun p => (enc p.1, p.2)) := by rw [← hl]; exact List.mem_map.2 ⟨e, he, rfl⟩
  obtain ⟨p, hp, hpe⟩ := List.mem_map.1 h1
  simp only [Prod.mk.injEq] at hpe
  have hkn : (es.toList.map (·.key)).Nodup := by
    have e1 : es.toList.map (·.key) = (l.map (·.1)).map enc := by
      have := congrArg (List.map (·.1)) hl
      simpa [Function.comp_def] using this
    rw [e1]
    exact List.pairwise_map.2 (hn.imp fun hne e' => hne (hinj _ _ e'))
  have hnew : p.1 ∉ L.map (·.1) := by
    intro hm
    obtain ⟨q, hq, hqp⟩ := List.mem_map.1 hm
    have hqe : q = p := eq_of_map (·.1) hn (h.sub q hq) hp hqp
    subst hqe
    have h2 : (enc q.1, q.2) ∈ D.map (fun e => (e.key, e.val)) := by rw [h.kv]; exact List.mem_map.2 ⟨q, hq, rfl⟩
    obtain ⟨e', he', hee⟩ := List.mem_map.1 h2
    simp only [Prod.mk.injEq] at hee
    have : e' = e := eq_of_map (·.key) hkn (h.it.sub e' he') he (hee.1.trans hpe.1)
    subst this
    have := hi.nod
    rw [List.map_append, List.nodup_append] at this
    exact this.2.2 e'.born (List.mem_map.2 ⟨e', he', rfl⟩) e'.born (by simp) rfl
  refine ⟨p, hp, hpe.1.symm, hpe.2.symm, hnew, hi, ?_, fun q hq => ?_, ?_⟩
  · rw [List.map_append, List.map_append, h.kv]; simp [hpe.1, hpe.2]
  · rcases List.mem_append.1 hq with hq | hq
    · exact h.sub q hq
    · simp at hq; subst hq; exact hp
  · rw [List.map_append, List.nodup_append]
    exact ⟨h.nod, by simp, fun a ha b hb e' => hnew (by simp at hb; rw [← hb, ← e']; exact ha)⟩
theorem Seen.all (hinj : ∀ a b, enc a = enc b → a = b) {es : Array MapEntry} {l : List (κ × Value)} {D : List MapEntry} {L : List (κ × Value)} (hl : es.toList.map (fun e => (e.key, e.val)) = l.map (fun p => (enc p.1, p.2)))
    (h : Seen enc es l D L) (hp : D.Perm es.toList) : ∀ p ∈ l, p ∈ L := by
  intro p hpl
  have h1 : (enc p.1, p.2) ∈ es.toList.map (fun e => (e.key, e.val)) := by rw [hl]; exact List.mem_map.2 ⟨p, hpl, rfl⟩
  obtain ⟨e, he, hee⟩ := List.mem_map.1 h1
  have h2 : (e.key, e.val) ∈ L.map (fun p => (enc p.1, p.2)) := by rw [← h.kv]; exact List.mem_map.2 ⟨e, hp.mem_iff.2 he, rfl⟩
  obtain ⟨q, hq, hqe⟩ := List.mem_map.1 h2
  simp only [Prod.mk.injEq] at hqe hee
  have : q = p := Prod.ext (hinj _ _ (hqe.1.trans hee.1)) (hqe.2.trans hee.2)
  subst this; exact hq
theorem Seen.len {es : Array MapEntry} {l : List (κ × Value)} {D : List MapEntry} {L : List (κ × Value)} (h : Seen enc es l D L) : L.length ≤ l.length := len_of_sub (·.1) h.nod h.sub
end
section rules
variable {P : Program} [Mixed P] {fn : Func} {Post : Spec} {st : List KI × S} {u m : PH}
variable {κ : Type} [DecidableEq κ] {enc : κ → Value}
theorem G.mapNextL (hinj : ∀ a b, enc a = enc b → a = b) (it g : Nat) (es : Array MapEntry) (clock : Nat) (l : List (κ × Value)) (D : List MapEntry) (L : List (κ × Value)) (h : mstop P (adv P st) = .next (.pointer (some ⟨it, 0, none⟩))) (hdr : noDr (adv P st) = true)
    (hi : m it = some (.mapIter (some g) clock (seenOf D) clock)) (hg : u g = some (.map es clock) ∨ m g = some (.map es clock)) (hs : Stamped es clock) (hl : es.toList.map (fun e => (e.key, e.val)) = l.map (fun p => (enc p.1, p.2))) (hn : (l.map (·.1)).Nodup) (hS : Seen enc es l D L)
    (k0 : (∀ p ∈ l, p ∈ L) → G P fn Post (nx (adv P st) (.tuple #[.bool false])) u m)
    (k1 : ∀ p e, p ∈ l → p.1 ∉ L.map (·.1) → e ∈ es.toList → e.key = enc p.1 → e.val = p.2 → Seen enc es l (D ++ [e]) (L ++ [p]) → G P fn Post (nx (adv P st) (.tuple #[.bool true, enc p.1, p.2])) u (m.upd it (.mapIter (some g) clock (seenOf (D ++ [e])) clock))) : G P fn Post st u m := by
  refine G.mapNext it g es clock D h hdr hi hg hs hS.it (fun hp => k0 (hS.all hinj hl hp)) (fun e he hi' => ?_)
  obtain ⟨p, h1, h2, h3, h4, h5⟩ := hS.snoc hinj hl hn he hi'
  rw [h2, h3]
  exact k1 p e h1 h4 he h2 h3 h5
end rules
end Go.Proofs.YtikfmknnbjocmaaGreatDoor
end
section
set_option linter.unusedVariables false
set_option linter.unusedSimpArgs false
namespace Go.Proofs.YtikfmknnbjocmaaGreatDoor
abbrev Par := Int × List UInt8
theorem bl_irr : ∀ a : List UInt8, Op.bytesLess a a = false
  | [] => rfl
  | x :: a => by unfold Op.bytesLess; rw [bl_irr a]; simp
theorem bl_trans : ∀ {a b c : List UInt8}, Op.bytesLess a b = true → Op.bytesLess b c = true → Op.bytesLess a c = true
  | _, [], _, h, _ => by simp [Op.bytesLess] at h
  | _, _ :: _, [], _, k => by simp [Op.bytesLess] at k
  | [], _ :: _, _ :: _, _, _ => rfl
  | x :: a, y :: b, z :: c, h, k => by
    unfold Op.bytesLess at h k ⊢
    simp only [Bool.or_eq_true, decide_eq_true_eq, Bool.and_eq_true, beq_iff_eq] at h k ⊢
    rcases h with h | ⟨rfl, h⟩
    · rcases k with k | ⟨rfl, k⟩
      · exact .inl (UInt8.lt_trans h k)
      · exact .inl h
    · rcases k with k | ⟨rfl, k⟩
      · exact .inl k
      · exact .inr ⟨rfl, bl_trans h k⟩
theorem bl_tri : ∀ {a b : List UInt8}, Op.bytesLess a b = false → Op.bytesLess b a = false → a = b
  | [], [], _, _ => rfl
  | [], _ :: _, h, _ => by simp [Op.bytesLess] at h
  | _ :: _, [], _, k => by simp [Op.bytesLess] at k
  | x :: a, y :: b, h, k => by
    unfold Op.bytesLess at h k
    simp only [Bool.or_eq_false_iff, decide_eq_false_iff_not, Bool.and_eq_false_iff, beq_eq_false_iff_ne] at h k
    have hxy : x = y := by
      rcases Nat.lt_trichotomy x.toNat y.toNat with e | e | e
      · exact absurd (UInt8.lt_iff_toNat_lt.2 e) h.1
      · exact UInt8.toNat_inj.1 e
      · exact absurd (UInt8.lt_iff_toNat_lt.2 e) k.1
    subst hxy
    have h2 := h.2.resolve_left (fun e => e rfl)
    have k2 := k.2.resolve_left (fun e => e rfl)
    rw [bl_tri h2 k2]
def cmpS (a b : List UInt8) : Int := if Op.bytesLess a b then -1 else if a = b then 0 else 1
def cmpI (x y : Int) : Int := if x < y then -1 else if y < x then 1 else 0
def cmpP (a b : Par) : Int := if cmpI a.1 b.1 ≠ 0 then cmpI a.1 b.1 else cmpS a.2 b.2
def cmpQ (a b : Par × Par) : Int := if cmpP a.1 b.1 ≠ 0 then cmpP a.1 b.1 else cmpP a.2 b.2
structure Ord {κ : Type} (c : κ → κ → Int) : Prop where
  refl : ∀ a, c a a = 0
  eq : ∀ a b, c a b = 0 → a = b
  sym : ∀ a b, c a b < 0 ↔ 0 < c b a
  trans : ∀ a b d, c a b < 0 → c b d < 0 → c a d < 0
theorem ordS : Ord cmpS := by
  refine ⟨fun a => by simp [cmpS, bl_irr], fun a b h => ?_, fun a b => ?_, fun a b d h k => ?_⟩
  · unfold cmpS at h
    split at h
    · cases h
    · split at h
      · assumption
      · cases h
  · unfold cmpS
    by_cases h : Op.bytesLess a b = true
    · rw [if_pos h]
      have h2 : ¬ (Op.bytesLess b a = true) := fun k => by have := bl_trans h k; rw [bl_irr] at this; cases this
      have h3 : ¬ (b = a) := fun e => by rw [e, bl_irr] at h; cases h
      rw [if_neg h2, if_neg h3]; omega
    · rw [if_neg h]
      constructor
      · intro k; split at k <;> omega
      · intro k
        by_cases h2 : Op.bytesLess b a = true
        · rw [if_pos h2] at k; omega
        · rw [if_neg h2] at k
          have := bl_tri (Bool.eq_false_iff.2 h2) (Bool.eq_false_iff.2 h)
          rw [if_pos this] at k; omega
  · have h1 : Op.bytesLess a b = true := by
      unfold cmpS at h
      split at h
      · assumption
      · split at h <;> omega
    have k1 : Op.bytesLess b d = true := by
      unfold cmpS at k
      split at k
      · assumption
      · split at k <;> omega
    unfold cmpS; rw [if_pos (bl_trans h1 k1)]; omega
theorem ordI : Ord cmpI := by
  refine ⟨fun a => by simp [cmpI], fun a b h => ?_, fun a b => ?_, fun a b d h k => ?_⟩
  all_goals unfold cmpI at *
  · split at h <;> (try split at h) <;> omega
  · split <;> split <;> (try split) <;> omega
  · split at h <;> split at k <;> (try split at h) <;> (try split at k) <;> split <;> (try split) <;> omega
theorem Ord.lex {α β : Type} {c : α → α → Int} {d : β → β → Int} (h : Ord c) (k : Ord d) : Ord (fun (a b : α × β) => if c a.1 b.1 ≠ 0 then c a.1 b.1 else d a.2 b.2) := by
  refine ⟨fun a => by simp [h.refl, k.refl], fun a b e => ?_, fun a b => ?_, fun a b x e f => ?_⟩
  · by_cases h0 : c a.1 b.1 = 0
    · simp only [h0, ne_eq, not_true, if_false] at e
      exact Prod.ext (h.eq _ _ h0) (k.eq _ _ e)
    · simp only [h0, ne_eq, not_false_eq_true, if_true] at e
  · have h1 := h.sym a.1 b.1
    have h2 := h.sym b.1 a.1
    by_cases h0 : c a.1 b.1 = 0
    · have e := h.eq _ _ h0
      have h3 : c b.1 a.1 = 0 := by rw [← e]; exact h.refl _
      simp only [h0, h3, ne_eq, not_true, if_false]
      exact k.sym _ _
    · have h3 : c b.1 a.1 ≠ 0 := fun h4 => h0 (by rw [h.eq _ _ h4]; exact h.refl _)
      simp only [h0, h3, ne_eq, not_false_eq_true, if_true]
      exact h1
  · have g : ∀ y z : α × β, (if c y.1 z.1 ≠ 0 then c y.1 z.1 else d y.2 z.2) < 0 ↔ (c y.1 z.1 < 0 ∨ (y.1 = z.1 ∧ d y.2 z.2 < 0)) := fun y z => by
      by_cases h0 : c y.1 z.1 = 0
      · have e := h.eq _ _ h0
        simp only [h0, ne_eq, not_true, if_false]
        constructor
        · intro hh; exact .inr ⟨e, hh⟩
        · rintro (hh | ⟨_, hh⟩)
          · omega
          · exact hh
      · simp only [h0, ne_eq, not_false_eq_true, if_true]
        constructor
        · intro hh; exact .inl hh
        · rintro (hh | ⟨e', _⟩)
          · exact hh
          · exact absurd (by rw [e']; exact h.refl _) h0
    have e' := (g a b).1 e
    have f' := (g b x).1 f
    refine (g a x).2 ?_
    rcases e' with e' | ⟨e1, e2⟩
    · rcases f' with f' | ⟨f1, f2⟩
      · exact .inl (h.trans _ _ _ e' f')
      · rw [← f1]; exact .inl e'
    · rcases f' with f' | ⟨f1, f2⟩
      · rw [e1]; exact .inl f'
      · exact .inr ⟨e1.trans f1, k.trans _ _ _ e2 f2⟩
theorem ordP : Ord cmpP := Ord.lex ordI ordS
theorem ordQ : Ord cmpQ := Ord.lex ordP ordP
section
variable {κ : Type} {c : κ → κ → Int}
def SortK (c : κ → κ → Int) (l : List κ) : Prop := l.Pairwise fun a b => c a b < 0
theorem Ord.irr (h : Ord c) (a : κ) : ¬ c a a < 0 := by rw [h.refl]; omega
theorem sort_ext (h : Ord c) : ∀ {l l' : List κ}, SortK c l → SortK c l' → (∀ a, a ∈ l ↔ a ∈ l') → l = l'
  | [], [], _, _, _ => rfl
  | [], b :: l', _, _, e => by have := (e b).2 (by simp); simp at this
  | a :: l, [], _, _, e => by have := (e a).1 (by simp); simp at this
  | a :: l, b :: l', h1, h2, e => by
    obtain ⟨p1, p2⟩ := List.pairwise_cons.1 h1
    obtain ⟨q1, q2⟩ := List.pairwise_cons.1 h2
    have hab : a = b := by
      rcases List.mem_cons.1 ((e a).1 (by simp)) with r | r
      · exact r
      · rcases List.mem_cons.1 ((e b).2 (by simp)) with s | s
        · exact s.symm
        · exact absurd (h.trans _ _ _ (p1 b s) (q1 a r)) (h.irr a)
    subst hab
    congr 1
    refine sort_ext h p2 q2 fun x => ?_
    constructor
    · intro hx
      rcases List.mem_cons.1 ((e x).1 (by simp [hx])) with r | r
      · subst r; exact absurd (p1 x hx) (h.irr x)
      · exact r
    · intro hx
      rcases List.mem_cons.1 ((e x).2 (by simp [hx])) with r | r
      · subst r; exact absurd (q1 x hx) (h.irr x)
      · exact r
theorem SortK.nodup (h : Ord c) {l : List κ} (hs : SortK c l) : l.Nodup := hs.imp fun hh e => by rw [e] at hh; exact h.irr _ hh
structure Can (c : κ → κ → Int) (f : κ → Rat) (l : List (κ × Rat)) : Prop where
  srt : SortK c (l.map (·.1))
  val : ∀ p ∈ l, p.2 = f p.1 ∧ p.2 ≠ 0
  out : ∀ k, k ∉ l.map (·.1) → f k = 0
theorem Can.ext (h : Ord c) {f : κ → Rat} {l l' : List (κ × Rat)} (hl : Can c f l) (hl' : Can c f l') : l = l' := by
  have mem : ∀ {l : List (κ × Rat)}, Can c f l → ∀ k, k ∈ l.map (·.1) ↔ f k ≠ 0 := fun {l} hl k => by
    constructor
    · intro hk
      obtain ⟨p, hp, rfl⟩ := List.mem_map.1 hk
      obtain ⟨e, e'⟩ := hl.val p hp
      rw [← e]; exact e'
    · intro hk
      exact Classical.byContradiction fun hn => hk (hl.out k hn)
  have hkeys := sort_ext h hl.srt hl'.srt fun a => (mem hl a).trans (mem hl' a).symm
  have form : ∀ {l : List (κ × Rat)}, Can c f l → l = (l.map (·.1)).map fun k => (k, f k) := fun {l} hl => by
    rw [List.map_map]
    conv => lhs; rw [← List.map_id l]
    refine List.map_congr_left fun p hp => ?_
    show p = (p.1, f p.1)
    rw [← (hl.val p hp).1]
  rw [form hl, form hl', hkeys]
end
structure CF where
  c : Rat
  s : Par → Rat
  t : Par × Par → Rat
def pairP (p q : Par) : Par × Par := if 0 < cmpP p q then (q, p) else (p, q)
theorem pairP_comm (p q : Par) : pairP p q = pairP q p := by
  unfold pairP
  have h1 := ordP.sym p q
  have h2 := ordP.sym q p
  by_cases h : 0 < cmpP p q
  · rw [if_pos h, if_neg (by omega)]
  · rw [if_neg h]
    by_cases h' : 0 < cmpP q p
    · rw [if_pos h']
    · rw [if_neg h']
      have := ordP.eq p q (by omega)
      rw [this]
def CF.zero : CF := ⟨0, fun _ => 0, fun _ => 0⟩
def CF.add (a b : CF) : CF := ⟨a.c + b.c, fun p => a.s p + b.s p, fun q => a.t q + b.t q⟩
def CF.scale (k : Rat) (a : CF) : CF := ⟨a.c * k, fun p => a.s p * k, fun q => a.t q * k⟩
def crossP (a b : CF) (q : Par × Par) : Rat := if 0 < cmpP q.1 q.2 then 0 else if q.1 = q.2 then 2 * (a.s q.1 * b.s q.1) else a.s q.1 * b.s q.2 + a.s q.2 * b.s q.1
def CF.mul (a b : CF) : CF := ⟨a.c * b.c, fun p => b.s p * a.c + a.s p * b.c, fun q => b.t q * a.c + a.t q * b.c + crossP a b q⟩
theorem CF.ext' {a b : CF} (h1 : a.c = b.c) (h2 : ∀ p, a.s p = b.s p) (h3 : ∀ q, a.t q = b.t q) : a = b := by
  cases a; cases b; simp only at h1 h2 h3
  rw [h1, funext h2, funext h3]
theorem CF.add_comm (a b : CF) : a.add b = b.add a := CF.ext' (by simp only [CF.add]; grind) (fun p => by simp only [CF.add]; grind) (fun q => by simp only [CF.add]; grind)
theorem CF.add_zero (a : CF) : a.add CF.zero = a := CF.ext' (by simp only [CF.add, CF.zero]; grind) (fun p => by simp only [CF.add, CF.zero]; grind) (fun q => by simp only [CF.add, CF.zero]; grind)
end Go.Proofs.YtikfmknnbjocmaaGreatDoor
end
section
set_option linter.unusedSectionVars false
set_option linter.unusedVariables false
namespace Go.Proofs.YtikfmknnbjocmaaGreatDoor
open Go.RowKit
theorem mod0 {u : PH} {x : Int} {n : Nat} (h1 : -9223372036854775808 ≤ x) (h2 : x ≤ 9223372036854775807) (hn : 0 < n) (hn2 : n ≤ 1000000) :
    Fn0 Tryz.prog 73 [.int .i64 x, .int .i64 (n : Int)] u fun v _ => ∃ r : Nat, v = .int .i64 (r : Int) ∧ r < n := by
  refine Fn0.of Tryz.func73 (by kernel_rfl) (by kernel_rfl) ?_
  refine G.lssF (n : Int) 1 (by kernel_rfl) (by omega) ?_
  have a1 := Int.tmod_lt_of_pos x (show (0 : Int) < n by omega)
  have a2 := Int.lt_tmod_of_pos x (show (0 : Int) < n by omega)
  refine G.remZ x (n : Int) (x.tmod n) (by kernel_rfl) (by omega) (by omega) rfl ?_
  refine G.add (x.tmod n) (n : Int) (x.tmod n + n) (by kernel_rfl) rfl (by omega) (by omega) ?_
  obtain ⟨y, hy⟩ : ∃ y : Nat, x.tmod n + n = (y : Int) := ⟨(x.tmod n + n).toNat, by omega⟩
  refine G.remZ (x.tmod n + n) (n : Int) ((y % n : Nat) : Int) (by kernel_rfl) (by omega) (by omega) (by rw [hy, Int.tmod_eq_emod_of_nonneg (by omega)]; rfl) ?_
  exact G.ret _ (by kernel_rfl) ⟨rfl, y % n, rfl, Nat.mod_lt _ hn⟩
def Drawn (s : Src) (n : Nat) (v : Value) (m' : PH) : Prop := ∃ r k : Nat, v = .int .i64 (r : Int) ∧ r < n ∧ k ≤ s.n ∧ m' = s.M k
set_option maxHeartbeats 1000000 in
theorem srcN0 {u : PH} {s : Src} {ts : List Int} {k n : Nat} (h : SrcOK u s ts) (hk : k ≤ s.n) (hn : 0 < n) (hn2 : n ≤ 1000000) :
    Contract Tryz.prog 37 [s.ptr, .int .i64 (n : Int)] u (s.M k) fun v _ m' => Drawn s n v m' := by
  have hsn := h.n
  have hle := h.le
  refine Contract.of Tryz.func37 (by kernel_rfl) (by kernel_rfl) ?_
  refine G.fieldA 71 s.g 0 1 1 (by kernel_rfl) (by kernel_rfl) ?_
  refine G.loadM none s.g (0 + 1) (.int .i64 (k : Int)) (by kernel_rfl) (by kernel_rfl) (s.cell1 k) ?_
  refine G.fieldA 71 s.g 0 0 0 (by kernel_rfl) (by kernel_rfl) ?_
  refine G.loadM none s.g (0 + 0) (.slice s.a s.n s.c) (by kernel_rfl) (by kernel_rfl) (s.cell0 k) ?_
  by_cases hlt : k < s.n
  · refine G.geqF (k : Int) (s.n : Int) (by kernel_rfl) (by omega) ?_
    refine G.fieldA 71 s.g 0 1 1 (by kernel_rfl) (by kernel_rfl) ?_
    refine G.loadM none s.g (0 + 1) (.int .i64 (k : Int)) (by kernel_rfl) (by kernel_rfl) (s.cell1 k) ?_
    refine G.add (k : Int) 1 ((k + 1 : Nat) : Int) (by kernel_rfl) (by omega) (by omega) (by omega) ?_
    refine G.fieldA 71 s.g 0 1 1 (by kernel_rfl) (by kernel_rfl) ?_
    refine G.storeM 1 s.g (0 + 1) 71 [.slice s.a s.n s.c, .int .i64 (k : Int)] (.int .i64 ((k + 1 : Nat) : Int)) (by kernel_rfl) (upd_same _ _ _) (fun x hx => by simp at hx; rcases hx with rfl | rfl <;> rfl) (by simp) rfl rfl ?_
    have e : (s.M k).upd s.g (.cells (([Value.slice s.a s.n s.c, .int .i64 (k : Int)].take (0 + 1)) ++ (Value.int .i64 ((k + 1 : Nat) : Int)).cells.toList ++ ([Value.slice s.a s.n s.c, .int .i64 (k : Int)].drop (0 + 1 + 1))).toArray 71 (0, 0)) = s.M (k + 1) := by
      unfold Src.M; rw [upd_upd]; rfl
    rw [e]
    refine G.fieldA 71 s.g 0 0 0 (by kernel_rfl) (by kernel_rfl) ?_
    refine G.loadM none s.g (0 + 0) (.slice s.a s.n s.c) (by kernel_rfl) (by kernel_rfl) (s.cell0 (k + 1)) ?_
    refine G.fieldA 71 s.g 0 1 1 (by kernel_rfl) (by kernel_rfl) ?_
    refine G.loadM none s.g (0 + 1) (.int .i64 ((k + 1 : Nat) : Int)) (by kernel_rfl) (by kernel_rfl) (s.cell1 (k + 1)) ?_
    refine G.sub ((k + 1 : Nat) : Int) 1 (k : Int) (by kernel_rfl) (by omega) (by omega) (by omega) ?_
    have hkt : k < ts.length := by omega
    obtain ⟨b, off, ea, eb⟩ := ListP.at' h.list (j := k) (e := .int .i64 ts[k]) (by simp [intsZ, List.getElem?_eq_getElem hkt])
    obtain ⟨g, a, n', c⟩ := s
    simp only at ea hlt hk hsn
    subst ea
    refine G.addr b off n' c k 1 (by kernel_rfl) hlt ?_
    refine G.loadU none b (off + k * 1) (.int .i64 ts[k]) (by kernel_rfl) (by kernel_rfl) eb ?_
    refine G.call0 _ _ (by kernel_rfl) Tryz.call73 (mod0 (h.lo _ (List.getElem_mem hkt)) (h.hi _ (List.getElem_mem hkt)) hn hn2) ?_
    rintro v1 u1 l1 ⟨r, rfl, hr⟩
    exact G.ret _ (by kernel_rfl) ⟨r, k + 1, rfl, hr, by dsimp only; omega, rfl⟩
  · refine G.geqT (k : Int) (s.n : Int) (by kernel_rfl) (by omega) ?_
    exact G.ret (.int .i64 0) (by kernel_rfl) ⟨0, k, rfl, hn, hk, rfl⟩
theorem srcRange0 {u : PH} {s : Src} {ts : List Int} {k : Nat} {lo hi : Int} {n : Nat} (h : SrcOK u s ts) (hk : k ≤ s.n) (hlo : -1000000 ≤ lo) (hlo2 : lo ≤ 1000000) (hn : hi - lo + 1 = (n : Int)) (hn0 : 0 < n) (hn2 : n ≤ 1000000) :
    Contract Tryz.prog 36 [s.ptr, .int .i64 lo, .int .i64 hi] u (s.M k) fun v _ m' => ∃ (r : Nat) (k' : Nat), v = .int .i64 (lo + (r : Int)) ∧ r < n ∧ k' ≤ s.n ∧ m' = s.M k' := by
  refine Contract.of Tryz.func36 (by kernel_rfl) (by kernel_rfl) ?_
  refine G.sub hi lo (hi - lo) (by kernel_rfl) rfl (by omega) (by omega) ?_
  refine G.add (hi - lo) 1 (n : Int) (by kernel_rfl) hn (by omega) (by omega) ?_
  refine G.callA _ _ (by kernel_rfl) (by kernel_rfl) Tryz.call37 (mt_or _).symm (apart_mt _) (srcN0 h hk hn0 hn2) ?_
  rintro v1 u1 m1 l1 ⟨r, k', rfl, hr, hk', rfl⟩ _
  rw [mt_or]
  refine G.add lo (r : Int) (lo + (r : Int)) (by kernel_rfl) rfl (by omega) (by omega) ?_
  exact G.ret _ (by kernel_rfl) ⟨r, k', rfl, hr, hk', rfl⟩
theorem srcPick0 {u : PH} {s : Src} {ts : List Int} {k : Nat} {v : Value} {L : List Int} (h : SrcOK u s ts) (hk : k ≤ s.n) (hL : ListP u v 1 (intsZ L)) (hn0 : 0 < L.length) (hn2 : L.length ≤ 1000000) :
    Contract Tryz.prog 39 [s.ptr, v] u (s.M k) fun v _ m' => ∃ z ∈ L, ∃ k' : Nat, v = .int .i64 z ∧ k' ≤ s.n ∧ m' = s.M k' := by
  obtain ⟨a, c, rfl⟩ := hL.opn
  rw [intsZ_length] at hL ⊢
  refine Contract.of Tryz.func39 (by kernel_rfl) (by kernel_rfl) ?_
  refine G.callA _ _ (by kernel_rfl) (by kernel_rfl) Tryz.call37 (mt_or _).symm (apart_mt _) (srcN0 h hk hn0 hn2) ?_
  rintro v1 u1 m1 l1 ⟨r, k', rfl, hr, hk', rfl⟩ _
  rw [mt_or]
  obtain ⟨b, off, rfl, e⟩ := ListP.at' (hL.mono l1) (j := r) (e := .int .i64 L[r]) (by simp [intsZ, List.getElem?_eq_getElem hr])
  refine G.addr b off L.length c r 1 (by kernel_rfl) hr ?_
  refine G.loadU none b (off + r * 1) (.int .i64 L[r]) (by kernel_rfl) (by kernel_rfl) e ?_
  exact G.ret _ (by kernel_rfl) ⟨L[r], List.getElem_mem hr, k', rfl, hk', rfl⟩
structure SmR (q : Rat) : Prop where
  num : q.num.natAbs ≤ 9
  den : q.den ∣ 12
theorem SmR.le {q : Rat} (h : SmR q) : q.den ≤ 12 := Nat.le_of_dvd (by omega) h.den
theorem SmR.tx {q : Rat} (h : SmR q) : Tx q := ⟨Nat.le_trans (dig_of_lt (k := 2) (by omega) (by have := h.num; omega)) (by omega), Nat.le_trans (dig_of_lt (k := 2) (by omega) (by have := h.le; omega)) (by omega)⟩
theorem smR_all : ∀ r : Fin 19, ∀ d : Fin 5, d.val ≠ 0 → ((Rat.divInt ((r.val : Int) - 9) (d.val : Int)).num.natAbs ≤ 9 ∧ (Rat.divInt ((r.val : Int) - 9) (d.val : Int)).den ∣ 12) := by decide
theorem smR_of {r : Nat} (hr : r < 19) {d : Int} (hd : d ∈ [1, 1, 1, 2, 3, (4 : Int)]) : SmR (Rat.divInt (-9 + (r : Int)) d) ∧ d ≠ 0 ∧ 0 < d ∧ d ≤ 4 := by
  have : ∃ d' : Fin 5, d'.val ≠ 0 ∧ d = (d'.val : Int) := by
    simp at hd
    rcases hd with rfl | rfl | rfl | rfl
    · exact ⟨1, by decide, rfl⟩
    · exact ⟨2, by decide, rfl⟩
    · exact ⟨3, by decide, rfl⟩
    · exact ⟨4, by decide, rfl⟩
  obtain ⟨d', h1, rfl⟩ := this
  have h2 := smR_all ⟨r, hr⟩ d' h1
  have e : (-9 + (r : Int)) = (r : Int) - 9 := by omega
  rw [e]
  exact ⟨⟨h2.1, h2.2⟩, by omega, by omega, by have := d'.isLt; omega⟩
set_option maxHeartbeats 1000000 in
theorem srcRat0 {u : PH} {s : Src} {ts : List Int} {k : Nat} (h : SrcOK u s ts) (hk : k ≤ s.n) :
    Contract Tryz.prog 22 [s.ptr] u (s.M k) fun v _ m' => ∃ (q : Rat) (k' : Nat), v = .string (mkS (ratT q)) ∧ SmR q ∧ k' ≤ s.n ∧ m' = s.M k' := by
  refine Contract.of Tryz.func22 (by kernel_rfl) (by kernel_rfl) ?_
  refine G.callA _ _ (by kernel_rfl) (by kernel_rfl) Tryz.call36 (mt_or _).symm (apart_mt _) (srcRange0 (lo := -9) (hi := 9) (n := 19) h hk (by omega) (by omega) (by omega) (by omega) (by omega)) ?_
  rintro v1 u1 m1 l1 ⟨r, k1, rfl, hr, hk1, rfl⟩ _
  rw [mt_or]
  refine G.call0 _ _ (by kernel_rfl) Tryz.call51 (bigOf0 (n := -9 + (r : Int)) (by omega) (by omega)) ?_
  intro v2 u2 l2 k2
  obtain ⟨b2, a2, n2, c2, rfl, _, _⟩ := k2.opn
  refine G.buildU 3 1 8 (.int .i64 0) (intsZ [1, 1, 1, 2, 3, 4]) (by kernel_rfl) (intsZ_ok _) rfl (by omega) (by simp [intsZ]) (by simp [intsZ]) ?_
  intro g3 u3 l3 e3
  have hLP : ListP u3 (.slice (some ⟨g3, 0, none⟩) 6 6) 1 (intsZ [1, 1, 1, 2, 3, 4]) := ⟨_, 6, rfl, Nat.le_refl _, fun j e hj => ⟨g3, 0, rfl, e3 j e hj⟩⟩
  refine G.callA _ _ (by kernel_rfl) (by kernel_rfl) Tryz.call39 (mt_or _).symm (apart_mt _) (srcPick0 (h.mono ((l1.trans l2).trans l3)) hk1 hLP (by simp) (by simp)) ?_
  rintro v4 u4 m4 l4 ⟨d, hd, k4, rfl, hk4, rfl⟩ _
  rw [mt_or]
  obtain ⟨hq, hd0, hd1, hd4⟩ := smR_of hr hd
  refine G.call0 _ _ (by kernel_rfl) Tryz.call51 (bigOf0 (n := d) (by omega) (by omega)) ?_
  intro v5 u5 l5 k5
  obtain ⟨b5, a5, n5, c5, rfl, _, _⟩ := k5.opn
  refine G.call0 _ _ (by kernel_rfl) Tryz.call50 (refNew0 (k2.mono ((l3.trans l4).trans l5)) k5 (nl_i64 (by omega) (by omega)) (nl_i64 (by omega) (by omega)) hd0) ?_
  intro v6 u6 l6 k6
  obtain ⟨b6, a6, n6, c6, a6', n6', c6', rfl, _⟩ := k6.opn
  refine G.call0 _ _ (by kernel_rfl) Tryz.call31 (refGive0 k6 hq.tx) ?_
  rintro v7 u7 l7 rfl
  exact G.ret _ (by kernel_rfl) ⟨_, k4, rfl, hq, hk4, rfl⟩
end Go.Proofs.YtikfmknnbjocmaaGreatDoor
end
section
set_option linter.unusedSectionVars false
set_option linter.unusedVariables false
namespace Go.Proofs.YtikfmknnbjocmaaGreatDoor
open Go.RowKit
section rules
variable [Flag] {P : Program} [Mixed P] {fn : Func} {Post : Spec} {st : List KI × S} {u m : PH}
end rules
theorem Src.h0 (s : Src) (k k' : Nat) (g : Nat) : s.M k g = none ∨ s.M k' g ≠ none := by
  by_cases e : g = s.g
  · subst e; right; unfold Src.M; rw [upd_same]; simp
  · left; unfold Src.M; rw [upd_ne _ _ e]; rfl
theorem srcNew0 {u : PH} {v : Value} {ts : List Int} (h : ListP u v 1 (intsZ ts)) (hl : ts.length ≤ 600) (h1 : ∀ t ∈ ts, -9223372036854775808 ≤ t) (h2 : ∀ t ∈ ts, t ≤ 9223372036854775807) :
    Contract Tryz.prog 9 [v] u PH.mt fun v' u' m' => ∃ s : Src, v' = s.ptr ∧ m' = s.M 0 ∧ SrcOK u' s ts := by
  have hcap : ∃ a c, v = .slice a ts.length c ∧ ts.length ≤ c := by
    obtain ⟨a, c, e1, e2, _⟩ := h
    rw [intsZ_length] at e1 e2
    exact ⟨a, c, e1, e2⟩
  obtain ⟨a, c, rfl, hcap⟩ := hcap
  refine Contract.of Tryz.func9 (by kernel_rfl) (by kernel_rfl) ?_
  refine G.minI [3, 3] (ts.length : Int) 600 (ts.length : Int) (by kernel_rfl) (by omega) ?_
  refine G.sliceTo 1 a ts.length c ts.length (by kernel_rfl) hcap ?_
  refine G.pub 1006 71 [.slice a ts.length c, .int .i64 0] (by kernel_rfl) (by kernel_rfl) ?_
  intro g hu hm
  exact G.ret (.pointer (some ⟨g, 0, none⟩)) (by kernel_rfl) ⟨⟨g, a, ts.length, c⟩, rfl, rfl, h, rfl, hl, h1, h2⟩
theorem Src.bag0 (s : Src) (k : Nat) {l : List Arr} (h : Bag PH.mt l) : Bag (s.M k) (s.arr k :: l) := by
  have := Src.at (s := s) (k := k) (m0 := PH.mt) rfl
  rw [mt_or] at this
  exact ⟨PH.mt, this, h⟩
end Go.Proofs.YtikfmknnbjocmaaGreatDoor
end
section
set_option linter.unusedSectionVars false
set_option linter.unusedVariables false
namespace Go.Proofs.YtikfmknnbjocmaaGreatDoor
open Go.RowKit
end Go.Proofs.YtikfmknnbjocmaaGreatDoor
end
section
set_option linter.unusedSectionVars false
set_option linter.unusedVariables false
namespace Go.Proofs.YtikfmknnbjocmaaGreatDoor
open Go.RowKit
end Go.Proofs.YtikfmknnbjocmaaGreatDoor
end
section
set_option linter.unusedSectionVars false
set_option linter.unusedVariables false
namespace Go.Proofs.YtikfmknnbjocmaaGreatDoor
open Go.RowKit
def T12 (q : Rat) (N : Nat) : Prop := ∃ k : Int, q = Rat.divInt k 12 ∧ k.natAbs ≤ N
theorem SmR.t12 {q : Rat} (h : SmR q) : T12 q 108 := by
  obtain ⟨c, hc⟩ := h.den
  refine ⟨q.num * (c : Int), ?_, ?_⟩
  · have hd := q.den_pos
    have hc0 : c ≠ 0 := fun e => by rw [e] at hc; simp at hc
    have h1 : (12 : Int) = (q.den : Int) * (c : Int) := by rw [← Int.natCast_mul, ← hc]; rfl
    rw [h1, Rat.divInt_mul_right (by omega), Rat.num_divInt_den]
  · have h1 := h.num
    have h2 : c ≤ 12 := by
      have hd := q.den_pos
      have : 1 * c ≤ q.den * c := Nat.mul_le_mul_right _ hd
      omega
    rw [Int.natAbs_mul, Int.natAbs_natCast]
    have : q.num.natAbs * c ≤ 9 * 12 := Nat.mul_le_mul h1 h2
    omega
end Go.Proofs.YtikfmknnbjocmaaGreatDoor
end
section
set_option linter.unusedVariables false
set_option linter.unusedSimpArgs false
namespace Go.Proofs.YtikfmknnbjocmaaGreatDoor
def Dn (d N : Nat) (q : Rat) : Prop := ∃ k : Int, q * ((12 ^ d : Nat) : Rat) = (k : Rat) ∧ k.natAbs ≤ N
theorem p12_pos (d : Nat) : 0 < 12 ^ d := Nat.pow_pos (by omega)
theorem p12_ne (d : Nat) : ((12 ^ d : Nat) : Rat) ≠ 0 := by
  intro h
  have h1 : ((12 ^ d : Nat) : Rat) = ((0 : Nat) : Rat) := h
  have := Rat.natCast_inj.1 h1
  have := p12_pos d
  omega
theorem Dn.mono {d N M : Nat} {q : Rat} (h : Dn d N q) (hm : N ≤ M) : Dn d M q := by
  obtain ⟨k, h1, h2⟩ := h
  exact ⟨k, h1, by omega⟩
theorem Dn.add {d N M : Nat} {q r : Rat} (h : Dn d N q) (h' : Dn d M r) : Dn d (N + M) (q + r) := by
  obtain ⟨k, h1, h2⟩ := h
  obtain ⟨l, k1, k2⟩ := h'
  exact ⟨k + l, by rw [Rat.intCast_add, ← h1, ← k1]; grind, by omega⟩
theorem Dn.mul {d e N M : Nat} {q r : Rat} (h : Dn d N q) (h' : Dn e M r) : Dn (d + e) (N * M) (q * r) := by
  obtain ⟨k, h1, h2⟩ := h
  obtain ⟨l, k1, k2⟩ := h'
  refine ⟨k * l, ?_, by rw [Int.natAbs_mul]; exact Nat.mul_le_mul h2 k2⟩
  rw [Rat.intCast_mul, ← h1, ← k1, Nat.pow_add, Rat.natCast_mul]; grind
theorem Dn.zero (d N : Nat) : Dn d N 0 := ⟨0, by rw [Rat.zero_mul]; rfl, Nat.zero_le _⟩
theorem Dn.two {d N : Nat} {q : Rat} (h : Dn d N q) : Dn d (2 * N) (2 * q) := by
  have := h.add h
  rw [show 2 * q = q + q by grind, show 2 * N = N + N by omega]; exact this
theorem Dn.frac {d N : Nat} {q : Rat} (h : Dn d N q) : q.num.natAbs ≤ N ∧ q.den ≤ 12 ^ d := by
  obtain ⟨k, h1, hk⟩ := h
  have hp := p12_pos d
  have hq : q = Rat.divInt k ((12 ^ d : Nat) : Int) := by
    rw [Rat.divInt_eq_div, Rat.intCast_natCast, ← h1]
    have := p12_ne d
    grind
  obtain ⟨e1, e2, e3⟩ := new_pos (y := k) (z := ((12 ^ d : Nat) : Int)) (by omega)
  have hg0 : 0 < Nat.gcd k.natAbs (12 ^ d) := Nat.gcd_pos_of_pos_right _ hp
  rw [hq]
  constructor
  · rw [e1, Int.natAbs_tdiv]
    exact Nat.le_trans (Nat.div_le_self _ _) hk
  · have h2 : ((Rat.divInt k ((12 ^ d : Nat) : Int)).den : Int) ≤ ((12 ^ d : Nat) : Int) := by
      rw [e2, show (((12 ^ d : Nat) : Int)).natAbs = 12 ^ d from rfl, Int.tdiv_eq_ediv_of_nonneg (by omega), ← Int.natCast_ediv]
      exact Int.ofNat_le.2 (Nat.div_le_self _ _)
    exact Int.ofNat_le.1 h2
theorem Dn.small {d N : Nat} {q : Rat} (h : Dn d N q) (hd : d ≤ 50) (hN : N < 10 ^ 100) : smallB q = true := by
  obtain ⟨h1, h2⟩ := h.frac
  have h3 : 12 ^ d ≤ 12 ^ 50 := Nat.pow_le_pow_right (by omega) hd
  have h4 : 12 ^ 50 < 10 ^ 100 := by decide +kernel
  simp only [smallB, Bool.and_eq_true, decide_eq_true_eq]
  exact ⟨Nat.lt_of_le_of_lt h1 hN, Nat.lt_of_le_of_lt h2 (Nat.lt_of_le_of_lt h3 h4)⟩
theorem SmR.dn {q : Rat} (h : SmR q) : Dn 1 108 q := by
  obtain ⟨k, hk, hk2⟩ := h.t12
  refine ⟨k, ?_, hk2⟩
  rw [hk, Rat.divInt_eq_div]
  have : ((12 ^ 1 : Nat) : Rat) = ((12 : Int) : Rat) := by decide +kernel
  rw [this]
  have : ((12 : Int) : Rat) ≠ 0 := by decide +kernel
  grind
structure CFD (d N : Nat) (F : CF) : Prop where
  c : Dn d N F.c
  s : ∀ p, Dn d N (F.s p)
  t : ∀ q, Dn d N (F.t q)
theorem CFD.add {d N M : Nat} {F G : CF} (h : CFD d N F) (h' : CFD d M G) : CFD d (N + M) (F.add G) := ⟨h.c.add h'.c, fun p => (h.s p).add (h'.s p), fun q => (h.t q).add (h'.t q)⟩
theorem CFD.scale {d e N M : Nat} {F : CF} {k : Rat} (h : CFD d N F) (hk : Dn e M k) : CFD (d + e) (N * M) (F.scale k) := ⟨h.c.mul hk, fun p => (h.s p).mul hk, fun q => (h.t q).mul hk⟩
theorem CFD.mul {d e N M : Nat} {F G : CF} (h : CFD d N F) (h' : CFD e M G) : CFD (d + e) (4 * (N * M)) (F.mul G) := by
  have sw : ∀ {q r : Rat}, Dn d N q → Dn e M r → Dn (d + e) (N * M) (r * q) := fun {q r} hq hr => by rw [show r * q = q * r by grind]; exact hq.mul hr
  refine ⟨(h.c.mul h'.c).mono (by omega), fun p => ((sw h.c (h'.s p)).add ((h.s p).mul h'.c)).mono (by omega), fun q => ?_⟩
  have e1 := (sw h.c (h'.t q)).add ((h.t q).mul h'.c)
  have e2 : Dn (d + e) (N * M + N * M) (crossP F G q) := by
    unfold crossP
    split
    · exact Dn.zero _ _
    · split
      · have := ((h.s q.1).mul (h'.s q.1)).two
        exact this.mono (by omega)
      · exact ((h.s q.1).mul (h'.s q.2)).add ((h.s q.2).mul (h'.s q.1))
  exact (e1.add e2).mono (by omega)
def letB (c : UInt8) : Bool := decide (97 ≤ c.toNat) && decide (c.toNat ≤ 122)
def wordB (s : List UInt8) : Bool := match s with
  | [] => false
  | c :: l => letB c && l.all (fun x => letB x || (decide (x.toNat = 45) || (decide (48 ≤ x.toNat) && decide (x.toNat ≤ 57)))) && decide (s.length ≤ 12)
structure PV (p : Par) : Prop where
  lo : -1 ≤ p.1
  hi : p.1 ≤ 1000
  cat : p.2 = [] ∨ wordB p.2 = true
structure CFV (F : CF) : Prop where
  s : ∀ p, F.s p ≠ 0 → PV p
  t : ∀ q, F.t q ≠ 0 → PV q.1 ∧ PV q.2 ∧ ¬ 0 < cmpP q.1 q.2
theorem or_of_add {a b : Rat} (h : a + b ≠ 0) : a ≠ 0 ∨ b ≠ 0 := by
  by_cases ha : a = 0
  · right; rintro rfl; apply h; rw [ha]; grind
  · exact .inl ha
theorem and_of_mul {a b : Rat} (h : a * b ≠ 0) : a ≠ 0 ∧ b ≠ 0 := ⟨fun e => h (by rw [e]; grind), fun e => h (by rw [e]; grind)⟩
theorem CFV.mul {F G : CF} (h : CFV F) (h' : CFV G) : CFV (F.mul G) := by
  refine ⟨fun p hp => (or_of_add hp).elim (fun e => h'.s p (and_of_mul e).1) (fun e => h.s p (and_of_mul e).1), fun q hq => ?_⟩
  rcases or_of_add hq with e | e
  · exact (or_of_add e).elim (fun e => h'.t q (and_of_mul e).1) (fun e => h.t q (and_of_mul e).1)
  · unfold crossP at e
    split at e
    · exact absurd rfl e
    · rename_i hno
      split at e
      · rename_i heq
        have := and_of_mul (and_of_mul e).2
        exact ⟨h.s _ this.1, by rw [← heq]; exact h.s _ this.1, hno⟩
      · rcases or_of_add e with e | e
        · have := and_of_mul e; exact ⟨h.s _ this.1, h'.s _ this.2, hno⟩
        · have := and_of_mul e; exact ⟨h'.s _ this.2, h.s _ this.1, hno⟩
end Go.Proofs.YtikfmknnbjocmaaGreatDoor
end
section
set_option linter.unusedVariables false
set_option linter.unusedSimpArgs false
namespace Go.Proofs.YtikfmknnbjocmaaGreatDoor
structure CFS (F : CF) : Prop where
  c : smallB F.c = true
  s : ∀ p, smallB (F.s p) = true
  t : ∀ q, smallB (F.t q) = true
theorem CFD.cfs {d N : Nat} {F : CF} (h : CFD d N F) (hd : d ≤ 50) (hN : N < 10 ^ 100) : CFS F := ⟨h.c.small hd hN, fun p => (h.s p).small hd hN, fun q => (h.t q).small hd hN⟩
def con (F G : CF) (x : Par × Par) : Rat := if x.1 = x.2 then F.s x.1 * G.s x.2 + F.s x.1 * G.s x.2 else F.s x.1 * G.s x.2
def crossL (F G : CF) : List (Par × Par) → Par × Par → Rat
  | [], _ => 0
  | x :: L, k => (if pairP x.1 x.2 = k then con F G x else 0) + crossL F G L k
theorem cross_snoc (F G : CF) (x : Par × Par) : ∀ (L : List (Par × Par)) (k : Par × Par), crossL F G (L ++ [x]) k = if k = pairP x.1 x.2 then con F G x + crossL F G L k else crossL F G L k
  | [], k => by
    simp only [List.nil_append, crossL]
    by_cases h : k = pairP x.1 x.2
    · rw [if_pos h.symm, if_pos h]
    · rw [if_neg (fun e => h e.symm), if_neg h]; grind
  | y :: L, k => by
    simp only [List.cons_append, crossL]
    rw [cross_snoc F G x L k]
    by_cases h : k = pairP x.1 x.2
    · rw [if_pos h, if_pos h]; grind
    · rw [if_neg h, if_neg h]
def two (F G : CF) (L : List (Par × Par)) (k : Par × Par) : Rat :=
  if 0 < cmpP k.1 k.2 then 0 else if k.1 = k.2 then (if k ∈ L then con F G k else 0) else (if k ∈ L then con F G k else 0) + (if (k.2, k.1) ∈ L then con F G (k.2, k.1) else 0)
theorem pairP_gt {p q : Par} (h : 0 < cmpP p q) : pairP p q = (q, p) := by unfold pairP; rw [if_pos h]
theorem pairP_le {p q : Par} (h : ¬ 0 < cmpP p q) : pairP p q = (p, q) := by unfold pairP; rw [if_neg h]
theorem pairP_ord (p q : Par) : ¬ 0 < cmpP (pairP p q).1 (pairP p q).2 := by
  by_cases h : 0 < cmpP p q
  · rw [pairP_gt h]
    intro h'
    have := (ordP.sym p q).1
    have h1 := (ordP.sym q p).2 h
    simp only at h'
    omega
  · rw [pairP_le h]; exact h
theorem pairP_eq {p q a b : Par} : pairP p q = (a, b) ↔ ¬ 0 < cmpP a b ∧ ((p = a ∧ q = b) ∨ (p = b ∧ q = a)) := by
  constructor
  · intro h
    have := pairP_ord p q
    rw [h] at this
    refine ⟨this, ?_⟩
    by_cases h' : 0 < cmpP p q
    · rw [pairP_gt h'] at h; cases h; exact .inr ⟨rfl, rfl⟩
    · rw [pairP_le h'] at h; cases h; exact .inl ⟨rfl, rfl⟩
  · rintro ⟨h, ⟨rfl, rfl⟩ | ⟨rfl, rfl⟩⟩
    · exact pairP_le h
    · rw [pairP_comm]; exact pairP_le h
theorem cross_two (F G : CF) : ∀ (L : List (Par × Par)) (k : Par × Par), L.Nodup → crossL F G L k = two F G L k
  | [], k, _ => by
    unfold crossL two
    split
    · rfl
    · split
      · simp
      · simp; grind
  | (p, q) :: L, (a, b), hn => by
    rw [List.nodup_cons] at hn
    unfold crossL
    rw [cross_two F G L (a, b) hn.2]
    unfold two
    simp only
    by_cases h0 : 0 < cmpP a b
    · rw [if_pos h0, if_pos h0, if_neg (fun e => (pairP_eq.1 e).1 h0)]; grind
    · rw [if_neg h0, if_neg h0]
      by_cases hab : a = b
      · subst hab
        rw [if_pos rfl, if_pos rfl]
        by_cases hx : (p, q) = (a, a)
        · cases hx
          rw [if_pos (pairP_eq.2 ⟨h0, .inl ⟨rfl, rfl⟩⟩), if_neg hn.1, if_pos (by simp)]; grind
        · rw [if_neg (fun e => hx (by rcases (pairP_eq.1 e).2 with ⟨rfl, rfl⟩ | ⟨rfl, rfl⟩ <;> rfl))]
          have : ((a, a) ∈ (p, q) :: L) ↔ (a, a) ∈ L := by simp [List.mem_cons, Ne.symm hx]
          simp only [this]; grind
      · rw [if_neg hab, if_neg hab]
        by_cases hx : (p, q) = (a, b)
        · cases hx
          rw [if_pos (pairP_eq.2 ⟨h0, .inl ⟨rfl, rfl⟩⟩), if_neg hn.1, if_pos (show (p, q) ∈ (p, q) :: L by simp)]
          have : ((q, p) ∈ (p, q) :: L) ↔ (q, p) ∈ L := by simp [List.mem_cons, Ne.symm hab]
          simp only [this]; grind
        · by_cases hy : (p, q) = (b, a)
          · cases hy
            rw [if_pos (pairP_eq.2 ⟨h0, .inr ⟨rfl, rfl⟩⟩), if_neg hn.1, if_pos (show (p, q) ∈ (p, q) :: L by simp)]
            have : ((q, p) ∈ (p, q) :: L) ↔ (q, p) ∈ L := by simp [List.mem_cons, hab]
            simp only [this]; grind
          · rw [if_neg (fun e => by rcases (pairP_eq.1 e).2 with ⟨rfl, rfl⟩ | ⟨rfl, rfl⟩; exact hx rfl; exact hy rfl)]
            have h1 : ((a, b) ∈ (p, q) :: L) ↔ (a, b) ∈ L := by simp [List.mem_cons, Ne.symm hx]
            have h2 : ((b, a) ∈ (p, q) :: L) ↔ (b, a) ∈ L := by simp [List.mem_cons, Ne.symm hy]
            simp only [h1, h2]; grind
theorem cross_all (F G : CF) {L : List (Par × Par)} (hn : L.Nodup) (ha : ∀ p q, F.s p ≠ 0 → G.s q ≠ 0 → (p, q) ∈ L) (k : Par × Par) : crossL F G L k = crossP F G k := by
  rw [cross_two F G L k hn]
  have key : ∀ p q : Par, (if (p, q) ∈ L then con F G (p, q) else 0) = con F G (p, q) := fun p q => by
    by_cases h : (p, q) ∈ L
    · rw [if_pos h]
    · rw [if_neg h]
      have : F.s p = 0 ∨ G.s q = 0 := by
        by_cases h1 : F.s p = 0
        · exact .inl h1
        · by_cases h2 : G.s q = 0
          · exact .inr h2
          · exact absurd (ha p q h1 h2) h
      unfold con
      simp only
      rcases this with h1 | h1 <;> rw [h1] <;> split <;> grind
  obtain ⟨a, b⟩ := k
  unfold two crossP
  simp only [key]
  split
  · rfl
  · split
    · rename_i e; subst e; unfold con; simp only [if_true]; grind
    · rename_i e
      unfold con
      simp only [if_neg e, if_neg (fun e' : b = a => e e'.symm)]
theorem con_dn {d e N M : Nat} {F G : CF} (h : CFD d N F) (h' : CFD e M G) (x : Par × Par) : Dn (d + e) (2 * (N * M)) (con F G x) := by
  unfold con
  split
  · exact (((h.s x.1).mul (h'.s x.2)).add ((h.s x.1).mul (h'.s x.2))).mono (by omega)
  · exact ((h.s x.1).mul (h'.s x.2)).mono (by omega)
theorem cross_dn {d e N M : Nat} {F G : CF} (h : CFD d N F) (h' : CFD e M G) {L : List (Par × Par)} (hn : L.Nodup) (k : Par × Par) : Dn (d + e) (4 * (N * M)) (crossL F G L k) := by
  rw [cross_two F G L k hn]
  have h1 : ∀ x, Dn (d + e) (2 * (N * M)) (if x ∈ L then con F G x else 0) := fun x => by
    split
    · exact con_dn h h' x
    · exact Dn.zero _ _
  unfold two
  split
  · exact Dn.zero _ _
  · split
    · exact (h1 k).mono (by omega)
    · exact ((h1 k).add (h1 _)).mono (by omega)
def assocQ {κ : Type} [DecidableEq κ] (a : κ) : List (κ × Rat) → Rat
  | [] => 0
  | (b, q) :: l => if a = b then q else assocQ a l
section
variable {κ : Type} [DecidableEq κ]
theorem assocQ_mem {a : κ} {q : Rat} : ∀ {l : List (κ × Rat)}, (l.map (·.1)).Nodup → (a, q) ∈ l → assocQ a l = q
  | (b, r) :: l, hn, h => by
    simp only [List.map_cons, List.nodup_cons] at hn
    unfold assocQ
    rcases List.mem_cons.1 h with e | e
    · cases e; rw [if_pos rfl]
    · have : a ≠ b := fun e' => hn.1 (by rw [← e']; exact List.mem_map.2 ⟨_, e, rfl⟩)
      rw [if_neg this]; exact assocQ_mem hn.2 e
theorem assocQ_not {a : κ} : ∀ {l : List (κ × Rat)}, a ∉ l.map (·.1) → assocQ a l = 0
  | [], _ => rfl
  | (b, r) :: l, h => by
    simp only [List.map_cons, List.mem_cons, not_or] at h
    unfold assocQ
    rw [if_neg h.1]; exact assocQ_not h.2
theorem assocQ_cases (a : κ) : ∀ (l : List (κ × Rat)), assocQ a l = 0 ∨ ∃ q, (a, q) ∈ l ∧ assocQ a l = q
  | [] => .inl rfl
  | (b, r) :: l => by
    unfold assocQ
    split
    · rename_i e; subst e; exact .inr ⟨r, by simp, rfl⟩
    · rcases assocQ_cases a l with h | ⟨q, h1, h2⟩
      · exact .inl h
      · exact .inr ⟨q, by simp [h1], h2⟩
theorem can_of {c : κ → κ → Int} (hc : Ord c) {l : List (κ × Rat)} (hs : SortK c (l.map (·.1))) (h0 : ∀ p ∈ l, p.2 ≠ 0) : Can c (fun k => assocQ k l) l :=
  ⟨hs, fun p hp => ⟨(assocQ_mem (hs.nodup hc) hp).symm, h0 p hp⟩, fun k hk => assocQ_not hk⟩
end
end Go.Proofs.YtikfmknnbjocmaaGreatDoor
end
section
set_option linter.unusedSectionVars false
set_option linter.unusedVariables false
set_option linter.unusedSimpArgs false
namespace Go.Proofs.YtikfmknnbjocmaaGreatDoor
def parV (p : Par) : Value := .agg #[.int .i64 p.1, .string (mkS p.2)]
def prV (q : Par × Par) : Value := .agg #[.int .i64 q.1.1, .string (mkS q.1.2), .int .i64 q.2.1, .string (mkS q.2.2)]
def fldOf (f : Field) : Bool × TypeId × Nat := (f.name != "_", f.type, f.offset)
section
variable {P : Program}
theorem run_part1 {t : TypeId} {xs : Array Value} {o : Nat} {v : Value} (h : aggB P t = some false) (hv : xs[o]? = some v) (w : World) : (part t xs o).run P w = .ok v w := by
  simp [part, run_isAgg' h, hv]
theorem run_partN {t : TypeId} {n : Nat} {xs : Array Value} {o : Nat} (h : aggB P t = some true) (hn : szB P t = some n) (w : World) : (part t xs o).run P w = .ok (.agg (xs.extract o (o + n))) w := by
  simp [part, run_isAgg' h, run_sizeOf' hn]
theorem und_of_agg {t : TypeId} {k : IntKind} (h : P.underlying t = some (.int k)) : aggB P t = some false := by unfold aggB; rw [h]
theorem und_of_str {t : TypeId} (h : P.underlying t = some .string) : aggB P t = some false := by unfold aggB; rw [h]
theorem mkS_beq (a b : List UInt8) : ((mkS a).toList == (mkS b).toList) = decide (a = b) := bytes_beq a b
theorem twoList {A B : Type} {h : A → B} {fs : List A} {x y : B} (hf : fs.map h = [x, y]) : ∃ f g, fs = [f, g] := by
  have h0 := congrArg List.length hf
  simp only [List.length_map, List.length_cons, List.length_nil] at h0
  match fs, h0 with
  | [f, g], _ => exact ⟨f, g, rfl⟩
theorem run_eq_par {t ti ts : TypeId} {k : IntKind} (hf : (P.fieldsOf t).toList.map fldOf = [(true, ti, 0), (true, ts, 1)]) (ht : P.underlying t = some (.struct (P.fieldsOf t))) (hp : P.stoodInHeld t = false) (hi : P.underlying ti = some (.int k)) (hs : P.underlying ts = some .string) (d : Nat) (a b : Par) (w : World) :
    (Op.equalIn (d + 2) t (parV a) (parV b)).run P w = .ok (decide (a = b)) w := by
  unfold parV
  rw [run_equalIn_struct w (d + 1) t _ _ ht hp]
  generalize (P.fieldsOf t).toList = fs at hf
  obtain ⟨f, g, hfs⟩ := twoList hf
  subst hfs
  · simp only [List.map_cons, List.map_nil, List.cons.injEq, fldOf, Prod.mk.injEq, bne_iff_ne, ne_eq, and_true] at hf
    obtain ⟨⟨n1, rfl, o1⟩, n2, rfl, o2⟩ := hf
    obtain ⟨a1, a2⟩ := a
    obtain ⟨b1, b2⟩ := b
    simp only [Op.eqFields, ne_eq, n1, n2, not_false_eq_true, if_true, Sem.run_bind]
    rw [run_part1 (und_of_agg hi) (v := .int .i64 a1) (by rw [o1]; rfl), Result.andThen_ok, run_part1 (und_of_agg hi) (v := .int .i64 b1) (by rw [o1]; rfl), Result.andThen_ok, run_equalIn_int w d _ _ _ _ _ hi, Result.andThen_ok]
    by_cases e : a1 = b1
    · subst e
      simp only [beq_self_eq_true, Bool.not_true, Bool.false_eq_true, if_false, Sem.run_bind]
      rw [run_part1 (und_of_str hs) (v := .string (mkS a2)) (by rw [o2]; rfl), Result.andThen_ok, run_part1 (und_of_str hs) (v := .string (mkS b2)) (by rw [o2]; rfl), Result.andThen_ok, run_equalIn_string w d _ _ _ hs, Result.andThen_ok, mkS_beq]
      by_cases e2 : a2 = b2
      · subst e2; simp
      · simp [e2]
    · have : (a1 == b1) = false := by simpa using e
      simp [this, e]
theorem run_eq_pr {t tp ti ts : TypeId} {k : IntKind} (hf : (P.fieldsOf t).toList.map fldOf = [(true, tp, 0), (true, tp, 2)]) (ht : P.underlying t = some (.struct (P.fieldsOf t))) (hp : P.stoodInHeld t = false)
    (hf' : (P.fieldsOf tp).toList.map fldOf = [(true, ti, 0), (true, ts, 1)]) (ht' : P.underlying tp = some (.struct (P.fieldsOf tp))) (hp' : P.stoodInHeld tp = false) (hsz : szB P tp = some 2) (hi : P.underlying ti = some (.int k)) (hs : P.underlying ts = some .string) (d : Nat) (a b : Par × Par) (w : World) :
    (Op.equalIn (d + 3) t (prV a) (prV b)).run P w = .ok (decide (a = b)) w := by
  have hag : aggB P tp = some true := by unfold aggB; rw [ht']
  unfold prV
  rw [run_equalIn_struct w (d + 2) t _ _ ht hp]
  generalize (P.fieldsOf t).toList = fs at hf
  obtain ⟨f, g, hfs⟩ := twoList hf
  subst hfs
  · simp only [List.map_cons, List.map_nil, List.cons.injEq, fldOf, Prod.mk.injEq, bne_iff_ne, ne_eq, and_true] at hf
    obtain ⟨⟨n1, e1, o1⟩, n2, e2, o2⟩ := hf
    obtain ⟨⟨a1, a2⟩, a3, a4⟩ := a
    obtain ⟨⟨b1, b2⟩, b3, b4⟩ := b
    simp only [Op.eqFields, ne_eq, n1, n2, not_false_eq_true, if_true, Sem.run_bind, e1, e2, o1, o2]
    rw [run_partN hag hsz, Result.andThen_ok, run_partN hag hsz, Result.andThen_ok]
    have q1 := run_eq_par hf' ht' hp' hi hs d (a1, a2) (b1, b2) w
    have q2 := run_eq_par hf' ht' hp' hi hs d (a3, a4) (b3, b4) w
    unfold parV at q1 q2
    have x1 : (#[Value.int .i64 a1, .string (mkS a2), .int .i64 a3, .string (mkS a4)].extract 0 (0 + 2)) = #[.int .i64 a1, .string (mkS a2)] := rfl
    have x2 : (#[Value.int .i64 b1, .string (mkS b2), .int .i64 b3, .string (mkS b4)].extract 0 (0 + 2)) = #[.int .i64 b1, .string (mkS b2)] := rfl
    have x3 : (#[Value.int .i64 a1, .string (mkS a2), .int .i64 a3, .string (mkS a4)].extract 2 (2 + 2)) = #[.int .i64 a3, .string (mkS a4)] := rfl
    have x4 : (#[Value.int .i64 b1, .string (mkS b2), .int .i64 b3, .string (mkS b4)].extract 2 (2 + 2)) = #[.int .i64 b3, .string (mkS b4)] := rfl
    simp only [x1, x2, q1, Result.andThen_ok]
    by_cases e : ((a1, a2) : Par) = (b1, b2)
    · simp only [e, decide_true, Bool.not_true, Bool.false_eq_true, if_false, Sem.run_bind]
      rw [run_partN hag hsz, Result.andThen_ok, run_partN hag hsz, Result.andThen_ok]
      simp only [x3, x4, q2, Result.andThen_ok]
      by_cases e' : ((a3, a4) : Par) = (b3, b4)
      · simp [e']
      · simp [e']
    · simp [e]
theorem run_chk_leaf {t : TypeId} (h : (∃ k, P.underlying t = some (.int k)) ∨ P.underlying t = some .string) (e : Bool) (d : Nat) (v : Value) (w : World) : (Instr.checkKey e (d + 1) t v).run P w = .ok () w := by
  unfold Instr.checkKey
  rcases h with ⟨k, h⟩ | h <;> simp [run_underlying h]
theorem run_chk_par {t ti ts : TypeId} {k : IntKind} (hf : (P.fieldsOf t).toList.map fldOf = [(true, ti, 0), (true, ts, 1)]) (ht : P.underlying t = some (.struct (P.fieldsOf t))) (hi : P.underlying ti = some (.int k)) (hs : P.underlying ts = some .string) (e : Bool) (d : Nat) (a : Par) (w : World) :
    (Instr.checkKey e (d + 2) t (parV a)).run P w = .ok () w := by
  unfold parV
  rw [Instr.checkKey]
  simp only [Sem.run_bind, run_underlying ht, Result.andThen_ok]
  rw [← Array.forIn_toList]
  generalize (P.fieldsOf t).toList = fs at hf
  obtain ⟨f, g, hfs⟩ := twoList hf
  subst hfs
  · simp only [List.map_cons, List.map_nil, List.cons.injEq, fldOf, Prod.mk.injEq, bne_iff_ne, ne_eq, and_true] at hf
    obtain ⟨⟨n1, e1, o1⟩, n2, e2, o2⟩ := hf
    simp only [List.forIn_cons, List.forIn_nil, ne_eq, n1, n2, not_false_eq_true, if_true, Sem.run_bind, e1, e2, o1, o2]
    rw [run_part1 (und_of_agg hi) (v := .int .i64 a.1) rfl, Result.andThen_ok, run_chk_leaf (.inl ⟨k, hi⟩)]
    simp only [Result.andThen_ok, Sem.run_pure, Sem.run_bind]
    rw [run_part1 (und_of_str hs) (v := .string (mkS a.2)) rfl, Result.andThen_ok, run_chk_leaf (.inr hs)]
    simp
theorem run_chk_pr {t tp ti ts : TypeId} {k : IntKind} (hf : (P.fieldsOf t).toList.map fldOf = [(true, tp, 0), (true, tp, 2)]) (ht : P.underlying t = some (.struct (P.fieldsOf t)))
    (hf' : (P.fieldsOf tp).toList.map fldOf = [(true, ti, 0), (true, ts, 1)]) (ht' : P.underlying tp = some (.struct (P.fieldsOf tp))) (hsz : szB P tp = some 2) (hi : P.underlying ti = some (.int k)) (hs : P.underlying ts = some .string) (e : Bool) (d : Nat) (a : Par × Par) (w : World) :
    (Instr.checkKey e (d + 3) t (prV a)).run P w = .ok () w := by
  have hag : aggB P tp = some true := by unfold aggB; rw [ht']
  unfold prV
  rw [Instr.checkKey]
  simp only [Sem.run_bind, run_underlying ht, Result.andThen_ok]
  rw [← Array.forIn_toList]
  generalize (P.fieldsOf t).toList = fs at hf
  obtain ⟨f, g, hfs⟩ := twoList hf
  subst hfs
  · simp only [List.map_cons, List.map_nil, List.cons.injEq, fldOf, Prod.mk.injEq, bne_iff_ne, ne_eq, and_true] at hf
    obtain ⟨⟨n1, e1, o1⟩, n2, e2, o2⟩ := hf
    have q1 := run_chk_par hf' ht' hi hs e d a.1 w
    have q2 := run_chk_par hf' ht' hi hs e d a.2 w
    unfold parV at q1 q2
    simp only [List.forIn_cons, List.forIn_nil, ne_eq, n1, n2, not_false_eq_true, if_true, Sem.run_bind, e1, e2, o1, o2]
    rw [run_partN hag hsz, Result.andThen_ok]
    have x1 : (#[Value.int .i64 a.1.1, .string (mkS a.1.2), .int .i64 a.2.1, .string (mkS a.2.2)].extract 0 (0 + 2)) = #[.int .i64 a.1.1, .string (mkS a.1.2)] := rfl
    have x2 : (#[Value.int .i64 a.1.1, .string (mkS a.1.2), .int .i64 a.2.1, .string (mkS a.2.2)].extract 2 (2 + 2)) = #[.int .i64 a.2.1, .string (mkS a.2.2)] := rfl
    rw [x1, q1]
    simp only [Result.andThen_ok, Sem.run_pure, Sem.run_bind]
    rw [run_partN hag hsz, Result.andThen_ok, x2, q2]
    simp
theorem parV_inj (a b : Par) (h : parV a = parV b) : a = b := by
  unfold parV at h
  simp only [Value.agg.injEq, Array.mk.injEq, List.cons.injEq, Value.int.injEq, Value.string.injEq, true_and, and_true] at h
  exact Prod.ext h.1 (mkS_inj.1 h.2)
theorem prV_inj (a b : Par × Par) (h : prV a = prV b) : a = b := by
  unfold prV at h
  simp only [Value.agg.injEq, Array.mk.injEq, List.cons.injEq, Value.int.injEq, Value.string.injEq, true_and, and_true] at h
  exact Prod.ext (Prod.ext h.1 (mkS_inj.1 h.2.1)) (Prod.ext h.2.2.1 (mkS_inj.1 h.2.2.2))
theorem bits_int (d : Nat) (k : IntKind) (z : Int) : Instr.sameBits d (.int k z) (.int k z) = true := by unfold Instr.sameBits; simp
theorem bits_str (d : Nat) (z : ByteArray) : Instr.sameBits d (.string z) (.string z) = true := by
  obtain ⟨⟨l⟩⟩ := z
  have : ((⟨⟨l⟩⟩ : ByteArray) == ⟨⟨l⟩⟩) = true := by rw [beq_toListBytes]; simp
  unfold Instr.sameBits; exact this
theorem bits_par (a : Par) : Instr.sameBits 10000 (parV a) (parV a) = true := by
  show Instr.sameBits (9999 + 1) _ _ = true
  unfold parV Instr.sameBits
  simp [bits_int, bits_str]
theorem bits_pr (a : Par × Par) : Instr.sameBits 10000 (prV a) (prV a) = true := by
  show Instr.sameBits (9999 + 1) _ _ = true
  unfold prV Instr.sameBits
  simp [bits_int, bits_str]
end
theorem keyPar : KeyT Tryz.prog 43 parV :=
  ⟨fun a b w => run_eq_par (P := Tryz.prog) (t := 43) (ti := 3) (ts := 9) (k := .i64) (by kernel_rfl) (by kernel_rfl) (by kernel_rfl) (by kernel_rfl) (by kernel_rfl) 9998 a b w,
   ⟨_, (by kernel_rfl : Tryz.prog.underlying 43 = some (.struct (Tryz.prog.fieldsOf 43))), fun _ _ => rfl⟩,
   fun e a w => run_chk_par (P := Tryz.prog) (t := 43) (ti := 3) (ts := 9) (k := .i64) (by kernel_rfl) (by kernel_rfl) (by kernel_rfl) (by kernel_rfl) e 9998 a w, bits_par, parV_inj⟩
theorem keyPr : KeyT Tryz.prog 144 prV :=
  ⟨fun a b w => run_eq_pr (P := Tryz.prog) (t := 144) (tp := 43) (ti := 3) (ts := 9) (k := .i64) (by kernel_rfl) (by kernel_rfl) (by kernel_rfl) (by kernel_rfl) (by kernel_rfl) (by kernel_rfl) (by kernel_rfl) (by kernel_rfl) (by kernel_rfl) 9997 a b w,
   ⟨_, (by kernel_rfl : Tryz.prog.underlying 144 = some (.struct (Tryz.prog.fieldsOf 144))), fun _ _ => rfl⟩,
   fun e a w => run_chk_pr (P := Tryz.prog) (t := 144) (tp := 43) (ti := 3) (ts := 9) (k := .i64) (by kernel_rfl) (by kernel_rfl) (by kernel_rfl) (by kernel_rfl) (by kernel_rfl) (by kernel_rfl) (by kernel_rfl) e 9997 a w, bits_pr, prV_inj⟩
end Go.Proofs.YtikfmknnbjocmaaGreatDoor
end
section
set_option linter.unusedSectionVars false
set_option linter.unusedVariables false
namespace Go.Proofs.YtikfmknnbjocmaaGreatDoor
variable [Flag]
def atReg : List KI → Bool
  | .code (.region _ _ _) :: _ => true
  | _ => false
def meet (P : Program) : Nat → List KI × S → List KI × S
  | 0, st => st
  | n + 1, st => cond (atReg st.1) st (match one P st.1 st.2 with | some st' => meet P n st' | none => st)
section rules
variable {P : Program} [Mixed P] {fn : Func} {Post : Spec} {st : List KI × S} {u m : PH}
theorem meet_sound : ∀ (n : Nat) (st : List KI × S), Sym P fn Post (meet P n st).1 (meet P n st).2 u m → Sym P fn Post st.1 st.2 u m
  | 0, st, h => h
  | n + 1, st, h => by
    unfold meet at h
    cases hn : atReg st.1 with
    | true => simp [hn] at h; exact h
    | false =>
      simp only [hn, cond_false] at h
      split at h
      · rename_i st' he
        obtain ⟨ks', s'⟩ := st'
        exact one_sound Mixed.mx he (meet_sound n _ h)
      · exact h
end rules
end Go.Proofs.YtikfmknnbjocmaaGreatDoor
end
section
set_option linter.unusedSectionVars false
set_option linter.unusedVariables false
namespace Go.Proofs.YtikfmknnbjocmaaGreatDoor
open Go.RowKit
theorem bl_asym {x y : List UInt8} (h : Op.bytesLess x y = true) : Op.bytesLess y x = false := by
  cases h' : Op.bytesLess y x with
  | false => rfl
  | true => have := bl_trans h h'; rw [bl_irr] at this; cases this
theorem bl_gt (x y : List UInt8) : (!(Op.bytesLess x y || decide (x = y))) = Op.bytesLess y x := by
  cases h1 : Op.bytesLess x y with
  | true => rw [bl_asym h1]; rfl
  | false =>
    by_cases e : x = y
    · subst e; rw [h1]; simp
    · cases h2 : Op.bytesLess y x with
      | true => simp [e]
      | false => exact absurd (bl_tri h1 h2) e
section rules
variable [Flag] {P : Program} [Mixed P] {fn : Func} {Post : Spec} {st : List KI × S} {u m : PH}
theorem G.ltS (a b : List UInt8) (r : Bool) (h : stopV P (adv P st) = .bin .lss (.string (mkS a)) (.string (mkS b))) (hr : Op.bytesLess a b = r) (k : G P fn Post (nx (adv P st) (.bool r)) u m) : G P fn Post st u m :=
  G.bin (.bool r) h (fun t X Y w => guard_str t X Y w) (fun t w => by simp only [binOp, Op.stringOp, mkS_toList]; rw [hr]; rfl) k
theorem G.gtS (a b : List UInt8) (r : Bool) (h : stopV P (adv P st) = .bin .gtr (.string (mkS a)) (.string (mkS b))) (hr : Op.bytesLess b a = r) (k : G P fn Post (nx (adv P st) (.bool r)) u m) : G P fn Post st u m :=
  G.bin (.bool r) h (fun t X Y w => guard_str t X Y w) (fun t w => by
    rw [← hr, ← bl_gt]
    simp only [binOp, Op.stringOp, mkS_toList]
    rw [show (a == b) = decide (a = b) from by by_cases e : a = b <;> simp [e]]
    rfl) k
end rules
section
variable [Flag] {u : PH}
theorem isNaNI0 (x : Int) : Fn0 Tryz.prog 153 [.int .i64 x] u fun v _ => v = .bool false := by
  refine Fn0.of Tryz.func153 (by kernel_rfl) (by kernel_rfl) ?_
  refine G.neqF x x (by kernel_rfl) (by omega) ?_
  exact G.ret (.bool false) (by kernel_rfl) ⟨rfl, rfl⟩
theorem isNaNS0 (x : List UInt8) : Fn0 Tryz.prog 154 [.string (mkS x)] u fun v _ => v = .bool false := by
  refine Fn0.of Tryz.func154 (by kernel_rfl) (by kernel_rfl) ?_
  refine G.neSF x x (by kernel_rfl) rfl ?_
  exact G.ret (.bool false) (by kernel_rfl) ⟨rfl, rfl⟩
theorem cmpI0 (x y : Int) : Fn0 Tryz.prog 119 [.int .i64 x, .int .i64 y] u fun v _ => v = .int .i64 (cmpI x y) := by
  refine Fn0.of Tryz.func119 (by kernel_rfl) (by kernel_rfl) ?_
  refine G.call0 _ _ (by kernel_rfl) Tryz.call153 (isNaNI0 x) ?_
  rintro v1 u1 l1 rfl
  refine G.call0 _ _ (by kernel_rfl) Tryz.call153 (isNaNI0 y) ?_
  rintro v2 u2 l2 rfl
  unfold cmpI
  by_cases h : x < y
  · refine G.lssT x y (by kernel_rfl) h ?_
    exact G.ret (.int .i64 (-1)) (by kernel_rfl) ⟨rfl, by rw [if_pos h]⟩
  · refine G.lssF x y (by kernel_rfl) h ?_
    by_cases h' : x > y
    · refine G.gtrT x y (by kernel_rfl) h' ?_
      exact G.ret (.int .i64 1) (by kernel_rfl) ⟨rfl, by rw [if_neg h, if_pos h']⟩
    · refine G.gtrF x y (by kernel_rfl) h' ?_
      exact G.ret (.int .i64 0) (by kernel_rfl) ⟨rfl, by rw [if_neg h, if_neg h']⟩
theorem cmpS0 (x y : List UInt8) : Fn0 Tryz.prog 120 [.string (mkS x), .string (mkS y)] u fun v _ => v = .int .i64 (cmpS x y) := by
  refine Fn0.of Tryz.func120 (by kernel_rfl) (by kernel_rfl) ?_
  refine G.call0 _ _ (by kernel_rfl) Tryz.call154 (isNaNS0 x) ?_
  rintro v1 u1 l1 rfl
  refine G.call0 _ _ (by kernel_rfl) Tryz.call154 (isNaNS0 y) ?_
  rintro v2 u2 l2 rfl
  unfold cmpS
  cases h : Op.bytesLess x y with
  | true =>
    refine G.ltS x y true (by kernel_rfl) h ?_
    exact G.ret (.int .i64 (-1)) (by kernel_rfl) ⟨rfl, by rw [if_pos rfl]⟩
  | false =>
    refine G.ltS x y false (by kernel_rfl) h ?_
    cases h' : Op.bytesLess y x with
    | true =>
      refine G.gtS x y true (by kernel_rfl) h' ?_
      exact G.ret (.int .i64 1) (by kernel_rfl) ⟨rfl, by rw [if_neg (by simp), if_neg (fun e => by subst e; rw [bl_irr] at h'; cases h')]⟩
    | false =>
      refine G.gtS x y false (by kernel_rfl) h' ?_
      exact G.ret (.int .i64 0) (by kernel_rfl) ⟨rfl, by rw [if_neg (by simp), if_pos (bl_tri h h')]⟩
theorem cmpOr0 (x y : Int) {b : Nat} (h : ElsP u b 0 1 [.int .i64 x, .int .i64 y]) : Fn0 Tryz.prog 118 [.slice (some ⟨b, 0, none⟩) 2 2] u fun v _ => v = .int .i64 (if x ≠ 0 then x else y) := by
  refine Fn0.of Tryz.func118 (by kernel_rfl) (by kernel_rfl) ?_
  refine G.loop (ι := Nat) (fun i => [(3, .v (.int .i64 0)), (6, .v (.slice (some ⟨b, 0, none⟩) 2 2)), (7, .v (.int .i64 ((2 : Nat) : Int))), (8, .v (.int .i64 (i : Int)))]) (fun _ => [])
    (fun i u' m' => i ≤ 2 ∧ m' = PH.mt ∧ (1 ≤ i → x = 0) ∧ (2 ≤ i → y = 0)) (fun i => 2 - i) 0 (by kernel_rfl) (fun _ => by kernel_rfl) ⟨by kernel_rfl, by kernel_rfl, by kernel_rfl⟩ ⟨by omega, rfl, by omega, by omega⟩ ?_
  rintro J i hJ u' m' hle ⟨hi, rfl, hx, hy⟩
  by_cases h2 : i = 2
  · subst h2
    refine G.lssF ((2 : Nat) : Int) ((2 : Nat) : Int) (by kernel_rfl) (by omega) ?_
    exact G.ret (.int .i64 0) (by kernel_rfl) ⟨rfl, by rw [if_neg (by simp [hx (by omega)]), hy (by omega)]⟩
  · refine G.lssT (i : Int) ((2 : Nat) : Int) (by kernel_rfl) (by omega) ?_
    refine G.addr b 0 2 2 i 1 (by kernel_rfl) (by omega) ?_
    obtain ⟨z, hz, h1, h2⟩ : ∃ z : Int, ElP u' b (0 + i * 1) (.int .i64 z) ∧ (z ≠ 0 → (if x ≠ 0 then x else y) = z) ∧ (z = 0 → (1 ≤ i + 1 → x = 0) ∧ (2 ≤ i + 1 → y = 0)) := by
      rcases (by omega : i = 0 ∨ i = 1) with rfl | rfl
      · exact ⟨x, (h 0 _ rfl).mono hle, fun hz => if_pos hz, fun hz => ⟨fun _ => hz, by omega⟩⟩
      · exact ⟨y, (h 1 _ rfl).mono hle, fun hz => if_neg (by simp [hx (by omega)]), fun hz => ⟨fun _ => hx (by omega), fun _ => hz⟩⟩
    refine G.loadU none b (0 + i * 1) (.int .i64 z) (by kernel_rfl) (by kernel_rfl) hz ?_
    by_cases h0 : z = 0
    · refine G.neqF z 0 (by kernel_rfl) (by omega) ?_
      refine G.add (i : Int) 1 ((i + 1 : Nat) : Int) (by kernel_rfl) (by omega) (by omega) (by omega) ?_
      exact G.back (by kernel_rfl) (hJ (i + 1) _ _ _ ⟨by kernel_rfl, by kernel_rfl, by kernel_rfl⟩ hle ⟨by omega, rfl, (h2 h0).1, (h2 h0).2⟩ (by omega))
    · refine G.neqT z 0 (by kernel_rfl) h0 ?_
      exact G.ret (.int .i64 z) (by kernel_rfl) ⟨rfl, by rw [h1 h0]⟩
theorem compare0 (p q : Par) : Fn0 Tryz.prog 72 [parV p, parV q] u fun v _ => v = .int .i64 (cmpP p q) := by
  refine Fn0.of Tryz.func72 (by kernel_rfl) (by kernel_rfl) ?_
  refine G.call0 _ _ (by kernel_rfl) Tryz.call119 (cmpI0 p.1 q.1) ?_
  rintro v1 u1 l1 rfl
  refine G.call0 _ _ (by kernel_rfl) Tryz.call120 (cmpS0 p.2 q.2) ?_
  rintro v2 u2 l2 rfl
  refine G.buildU 3 1 8 (.int .i64 0) [.int .i64 (cmpI p.1 q.1), .int .i64 (cmpS p.2 q.2)] (by kernel_rfl) (intsZ_ok [_, _]) rfl (by omega) (by simp) (by simp) ?_
  intro g u3 l3 e3
  refine G.call0 _ _ (by kernel_rfl) Tryz.call118 (cmpOr0 _ _ e3) ?_
  rintro v4 u4 l4 rfl
  exact G.ret _ (by kernel_rfl) ⟨rfl, rfl⟩
theorem comparePairs0 (p q : Par × Par) : Fn0 Tryz.prog 92 [prV p, prV q] u fun v _ => v = .int .i64 (cmpQ p q) := by
  refine Fn0.of Tryz.func92 (by kernel_rfl) (by kernel_rfl) ?_
  refine G.call0 _ _ (by kernel_rfl) Tryz.call72 (compare0 p.1 q.1) ?_
  rintro v1 u1 l1 rfl
  refine G.call0 _ _ (by kernel_rfl) Tryz.call72 (compare0 p.2 q.2) ?_
  rintro v2 u2 l2 rfl
  refine G.buildU 3 1 8 (.int .i64 0) [.int .i64 (cmpP p.1 q.1), .int .i64 (cmpP p.2 q.2)] (by kernel_rfl) (intsZ_ok [_, _]) rfl (by omega) (by simp) (by simp) ?_
  intro g u3 l3 e3
  refine G.call0 _ _ (by kernel_rfl) Tryz.call118 (cmpOr0 _ _ e3) ?_
  rintro v4 u4 l4 rfl
  exact G.ret _ (by kernel_rfl) ⟨rfl, rfl⟩
end
end Go.Proofs.YtikfmknnbjocmaaGreatDoor
end
section
set_option linter.unusedSectionVars false
set_option linter.unusedVariables false
namespace Go.Proofs.YtikfmknnbjocmaaGreatDoor
open Go.RowKit
abbrev SB (q : Rat) : Prop := smallB q = true
theorem SB.sz {q : Rat} (h : SB q) : Sz q 12 := (smallB_spec h).2
theorem SB.tx {q : Rat} (h : SB q) : Tx q := (smallB_spec h).1
theorem SB.big {q : Rat} (h : SB q) : Sz q 1000000000000 := h.sz.mono (by omega)
theorem SB.zero : SB 0 := by decide
abbrev fz : Value := .agg #[.bool false, .slice none 0 0, .bool false, .slice none 0 0]
theorem sgn0 {q : Rat} : sgn q.num = 0 ↔ q = 0 := by
  constructor
  · intro h
    have : q.num = 0 := by
      rcases Int.lt_trichotomy q.num 0 with h1 | h1 | h1
      · rw [sgn_neg h1] at h; cases h
      · exact h1
      · rw [sgn_pos h1] at h; cases h
    exact Rat.num_eq_zero.1 this
  · rintro rfl; rfl
theorem MapR.at {κ : Type} [DecidableEq κ] {enc : κ → Value} {R : PH → Value → Rat → Prop} {nz : Bool} {u : PH} {o : Obj} {f : κ → Rat} {N s : Nat} (h : MapR enc R nz u o f N s) : ∃ l : List (κ × Value), MapO enc o l ∧ (∀ p ∈ l, R u p.2 (f p.1) ∧ (nz = true → f p.1 ≠ 0) ∧ Sz (f p.1) s) ∧ (∀ k, k ∉ l.map (·.1) → f k = 0) ∧ l.length ≤ N := h
theorem MapR.mf {κ : Type} [DecidableEq κ] {enc : κ → Value} {nz : Bool} {u u' : PH} {o : Obj} {f : κ → Rat} {N s : Nat} (h : MapR enc FracP nz u o f N s) (hl : PH.le u u') : MapR enc FracP nz u' o f N s := by
  obtain ⟨l, h1, h2, h3, h4⟩ := h
  exact ⟨l, h1, fun p hp => ⟨(h2 p hp).1.mono hl, (h2 p hp).2⟩, h3, h4⟩
set_option maxHeartbeats 1000000 in
theorem notePar0 {u : PH} {g : Nat} {o : Obj} {f : Par → Rat} {N : Nat} {a : Par} {x : Value} {q : Rat} (h : MapR parV FracP true u o f N 12) (hx : FracP u x q) (hq : SB q) (hf : SB (f a)) (hs : SB (q + f a)) :
    Contract Tryz.prog 137 [.map (some g), parV a, x] u (blk1 g o) fun v u' m' => ∃ o', m' = blk1 g o' ∧ MapR parV FracP true u' o' (setF f a (q + f a)) (N + 1) 12 := by
  obtain ⟨l, ho, h2, h3, h4⟩ := h.at
  obtain ⟨b, aa, n, c, b', a', n', c', rfl⟩ := hx.opn
  refine Contract.of Tryz.func137 (by kernel_rfl) (by kernel_rfl) ?_
  have tail : ∀ (u1 : PH) (y : Value), PH.le u u1 → FracP u1 y (q + f a) →
      (∀ o', MapO parV o' (delK a l) → q + f a = 0 → MapR parV FracP true u1 o' (setF f a (q + f a)) (N + 1) 12) ∧ (∀ o', MapO parV o' (putK a y l) → q + f a ≠ 0 → MapR parV FracP true u1 o' (setF f a (q + f a)) (N + 1) 12) := fun u1 y hl hy =>
    ⟨fun o' ho' h0 => by
      rw [h0]
      exact (MapR.drop ho (fun p hp => ⟨(h2 p hp).1.mono hl, (h2 p hp).2⟩) h3 h4 ho').up (by omega) (Nat.le_refl _),
     fun o' ho' h0 => MapR.put ho (fun p hp => ⟨(h2 p hp).1.mono hl, (h2 p hp).2⟩) h3 h4 ho' hy (fun _ => h0) hs.sz (Nat.le_refl _)⟩
  cases hx' : assoc a l with
  | none =>
    have hf0 : f a = 0 := h3 a (assoc_none.1 hx')
    have e0 : q + f a = q := by rw [hf0]; grind
    refine G.mapNot (et := 88) keyPar fz g o l a (by kernel_rfl) (by kernel_rfl) (.inr (blk1_same _ _)) ho hx' ?_
    refine G.call0 _ _ (by kernel_rfl) Tryz.call127 (fracSign0 hx (Nat.le_trans hq.sz.1 (by omega))) ?_
    rintro v1 u1 l1 rfl
    obtain ⟨t1, t2⟩ := tail u1 _ l1 (by rw [e0]; exact hx.mono l1)
    by_cases hq0 : q = 0
    · refine G.eqlT (sgn q.num) 0 (by kernel_rfl) (sgn0.2 hq0) ?_
      refine G.mapDel (et := 88) keyPar 89 g o l a 43 (by kernel_rfl) (by kernel_rfl) (by kernel_rfl) (blk1_same _ _) ho ?_
      intro o' ho'
      exact G.ret (.tuple #[]) (by kernel_rfl) ⟨o', upd_upd _ _ _ _, t1 o' ho' (by rw [e0]; exact hq0)⟩
    · refine G.eqlF (sgn q.num) 0 (by kernel_rfl) (fun e => hq0 (sgn0.1 e)) ?_
      refine G.mapPut (et := 88) keyPar g o l a (.agg #[.bool b, .slice aa n c, .bool b', .slice a' n' c']) (by kernel_rfl) (by kernel_rfl) (blk1_same _ _) ho ?_
      intro o' ho'
      exact G.ret (.tuple #[]) (by kernel_rfl) ⟨o', upd_upd _ _ _ _, t2 o' ho' (by rw [e0]; exact hq0)⟩
  | some xv =>
    obtain ⟨hr, _, _⟩ := h2 _ (assoc_mem hx')
    obtain ⟨b1, a1, n1, c1, b1', a1', n1', c1', rfl⟩ := hr.opn
    refine G.mapHas (et := 88) keyPar fz g o l a (.agg #[.bool b1, .slice a1 n1 c1, .bool b1', .slice a1' n1' c1']) (by kernel_rfl) (by kernel_rfl) (.inr (blk1_same _ _)) ho hx' ?_
    refine G.call0 _ _ (by kernel_rfl) Tryz.call95 (fracAdd0 hx hr hq.big hf.big) ?_
    intro v1 u1 l1 k1
    obtain ⟨b2, a2, n2, c2, b2', a2', n2', c2', rfl⟩ := k1.opn
    refine G.call0 _ _ (by kernel_rfl) Tryz.call127 (fracSign0 k1 (Nat.le_trans hs.sz.1 (by omega))) ?_
    rintro v2 u2 l2 rfl
    obtain ⟨t1, t2⟩ := tail u2 _ (l1.trans l2) (k1.mono l2)
    by_cases hq0 : q + f a = 0
    · refine G.eqlT (sgn (q + f a).num) 0 (by kernel_rfl) (sgn0.2 hq0) ?_
      refine G.mapDel (et := 88) keyPar 89 g o l a 43 (by kernel_rfl) (by kernel_rfl) (by kernel_rfl) (blk1_same _ _) ho ?_
      intro o' ho'
      exact G.ret (.tuple #[]) (by kernel_rfl) ⟨o', upd_upd _ _ _ _, t1 o' ho' hq0⟩
    · refine G.eqlF (sgn (q + f a).num) 0 (by kernel_rfl) (fun e => hq0 (sgn0.1 e)) ?_
      refine G.mapPut (et := 88) keyPar g o l a (.agg #[.bool b2, .slice a2 n2 c2, .bool b2', .slice a2' n2' c2']) (by kernel_rfl) (by kernel_rfl) (blk1_same _ _) ho ?_
      intro o' ho'
      exact G.ret (.tuple #[]) (by kernel_rfl) ⟨o', upd_upd _ _ _ _, t2 o' ho' hq0⟩
set_option maxHeartbeats 1000000 in
theorem notePr0 {u : PH} {g : Nat} {o : Obj} {f : (Par × Par) → Rat} {N : Nat} {a : (Par × Par)} {x : Value} {q : Rat} (h : MapR prV FracP true u o f N 12) (hx : FracP u x q) (hq : SB q) (hf : SB (f a)) (hs : SB (q + f a)) :
    Contract Tryz.prog 96 [.map (some g), prV a, x] u (blk1 g o) fun v u' m' => ∃ o', m' = blk1 g o' ∧ MapR prV FracP true u' o' (setF f a (q + f a)) (N + 1) 12 := by
  obtain ⟨l, ho, h2, h3, h4⟩ := h.at
  obtain ⟨b, aa, n, c, b', a', n', c', rfl⟩ := hx.opn
  refine Contract.of Tryz.func96 (by kernel_rfl) (by kernel_rfl) ?_
  have tail : ∀ (u1 : PH) (y : Value), PH.le u u1 → FracP u1 y (q + f a) →
      (∀ o', MapO prV o' (delK a l) → q + f a = 0 → MapR prV FracP true u1 o' (setF f a (q + f a)) (N + 1) 12) ∧ (∀ o', MapO prV o' (putK a y l) → q + f a ≠ 0 → MapR prV FracP true u1 o' (setF f a (q + f a)) (N + 1) 12) := fun u1 y hl hy =>
    ⟨fun o' ho' h0 => by
      rw [h0]
      exact (MapR.drop ho (fun p hp => ⟨(h2 p hp).1.mono hl, (h2 p hp).2⟩) h3 h4 ho').up (by omega) (Nat.le_refl _),
     fun o' ho' h0 => MapR.put ho (fun p hp => ⟨(h2 p hp).1.mono hl, (h2 p hp).2⟩) h3 h4 ho' hy (fun _ => h0) hs.sz (Nat.le_refl _)⟩
  cases hx' : assoc a l with
  | none =>
    have hf0 : f a = 0 := h3 a (assoc_none.1 hx')
    have e0 : q + f a = q := by rw [hf0]; grind
    refine G.mapNot (et := 88) keyPr fz g o l a (by kernel_rfl) (by kernel_rfl) (.inr (blk1_same _ _)) ho hx' ?_
    refine G.call0 _ _ (by kernel_rfl) Tryz.call127 (fracSign0 hx (Nat.le_trans hq.sz.1 (by omega))) ?_
    rintro v1 u1 l1 rfl
    obtain ⟨t1, t2⟩ := tail u1 _ l1 (by rw [e0]; exact hx.mono l1)
    by_cases hq0 : q = 0
    · refine G.eqlT (sgn q.num) 0 (by kernel_rfl) (sgn0.2 hq0) ?_
      refine G.mapDel (et := 88) keyPr 90 g o l a 144 (by kernel_rfl) (by kernel_rfl) (by kernel_rfl) (blk1_same _ _) ho ?_
      intro o' ho'
      exact G.ret (.tuple #[]) (by kernel_rfl) ⟨o', upd_upd _ _ _ _, t1 o' ho' (by rw [e0]; exact hq0)⟩
    · refine G.eqlF (sgn q.num) 0 (by kernel_rfl) (fun e => hq0 (sgn0.1 e)) ?_
      refine G.mapPut (et := 88) keyPr g o l a (.agg #[.bool b, .slice aa n c, .bool b', .slice a' n' c']) (by kernel_rfl) (by kernel_rfl) (blk1_same _ _) ho ?_
      intro o' ho'
      exact G.ret (.tuple #[]) (by kernel_rfl) ⟨o', upd_upd _ _ _ _, t2 o' ho' (by rw [e0]; exact hq0)⟩
  | some xv =>
    obtain ⟨hr, _, _⟩ := h2 _ (assoc_mem hx')
    obtain ⟨b1, a1, n1, c1, b1', a1', n1', c1', rfl⟩ := hr.opn
    refine G.mapHas (et := 88) keyPr fz g o l a (.agg #[.bool b1, .slice a1 n1 c1, .bool b1', .slice a1' n1' c1']) (by kernel_rfl) (by kernel_rfl) (.inr (blk1_same _ _)) ho hx' ?_
    refine G.call0 _ _ (by kernel_rfl) Tryz.call95 (fracAdd0 hx hr hq.big hf.big) ?_
    intro v1 u1 l1 k1
    obtain ⟨b2, a2, n2, c2, b2', a2', n2', c2', rfl⟩ := k1.opn
    refine G.call0 _ _ (by kernel_rfl) Tryz.call127 (fracSign0 k1 (Nat.le_trans hs.sz.1 (by omega))) ?_
    rintro v2 u2 l2 rfl
    obtain ⟨t1, t2⟩ := tail u2 _ (l1.trans l2) (k1.mono l2)
    by_cases hq0 : q + f a = 0
    · refine G.eqlT (sgn (q + f a).num) 0 (by kernel_rfl) (sgn0.2 hq0) ?_
      refine G.mapDel (et := 88) keyPr 90 g o l a 144 (by kernel_rfl) (by kernel_rfl) (by kernel_rfl) (blk1_same _ _) ho ?_
      intro o' ho'
      exact G.ret (.tuple #[]) (by kernel_rfl) ⟨o', upd_upd _ _ _ _, t1 o' ho' hq0⟩
    · refine G.eqlF (sgn (q + f a).num) 0 (by kernel_rfl) (fun e => hq0 (sgn0.1 e)) ?_
      refine G.mapPut (et := 88) keyPr g o l a (.agg #[.bool b2, .slice a2 n2 c2, .bool b2', .slice a2' n2' c2']) (by kernel_rfl) (by kernel_rfl) (blk1_same _ _) ho ?_
      intro o' ho'
      exact G.ret (.tuple #[]) (by kernel_rfl) ⟨o', upd_upd _ _ _ _, t2 o' ho' hq0⟩
def MomM (m' u : PH) (v : Value) (F : CF) (N : Nat) : Prop :=
  ∃ b a n c b' a' n' c' g1 g2 o1 o2, v = .agg #[.bool b, .slice a n c, .bool b', .slice a' n' c', .map (some g1), .map (some g2)] ∧ FracP u (.agg #[.bool b, .slice a n c, .bool b', .slice a' n' c']) F.c ∧ g1 ≠ g2 ∧ m' = (PH.mt.upd g1 o1).upd g2 o2 ∧ MapR parV FracP true u o1 F.s N 12 ∧ MapR prV FracP true u o2 F.t N 12
def MomP (u : PH) (v : Value) (F : CF) (N : Nat) : Prop :=
  ∃ b a n c b' a' n' c' g1 g2 o1 o2, v = .agg #[.bool b, .slice a n c, .bool b', .slice a' n' c', .map (some g1), .map (some g2)] ∧ FracP u (.agg #[.bool b, .slice a n c, .bool b', .slice a' n' c']) F.c ∧ u g1 = some o1 ∧ u g2 = some o2 ∧ MapR parV FracP true u o1 F.s N 12 ∧ MapR prV FracP true u o2 F.t N 12
theorem MomP.mono {u u' : PH} {v : Value} {F : CF} {N : Nat} (h : MomP u v F N) (hl : PH.le u u') : MomP u' v F N := by
  obtain ⟨b, a, n, c, b', a', n', c', g1, g2, o1, o2, e, h1, h2, h3, h4, h5⟩ := h
  exact ⟨b, a, n, c, b', a', n', c', g1, g2, o1, o2, e, h1.mono hl, hl _ _ h2, hl _ _ h3, h4.mf hl, h5.mf hl⟩
theorem MomM.give {m' u u' : PH} {v : Value} {F : CF} {N : Nat} (h : MomM m' u v F N) (hl : PH.le u u') (hm : PH.le m' u') : MomP u' v F N := by
  obtain ⟨b, a, n, c, b', a', n', c', g1, g2, o1, o2, e, h1, h2, rfl, h4, h5⟩ := h
  exact ⟨b, a, n, c, b', a', n', c', g1, g2, o1, o2, e, h1.mono hl, hm _ _ (by rw [upd_ne _ _ h2, upd_same]), hm _ _ (upd_same _ _ _), h4.mf hl, h5.mf hl⟩
theorem MomM.congr {m' u : PH} {v : Value} {F F' : CF} {N N' : Nat} (h : MomM m' u v F N) (e : F = F') (hN : N ≤ N') : MomM m' u v F' N' := by
  subst e
  obtain ⟨b, a, n, c, b', a', n', c', g1, g2, o1, o2, e, h1, h2, h3, h4, h5⟩ := h
  exact ⟨b, a, n, c, b', a', n', c', g1, g2, o1, o2, e, h1, h2, h3, h4.up hN (Nat.le_refl _), h5.up hN (Nat.le_refl _)⟩
theorem pair0 {u : PH} (p q : Par) : Fn0 Tryz.prog 97 [parV p, parV q] u fun v _ => v = prV (pairP p q) := by
  refine Fn0.of Tryz.func97 (by kernel_rfl) (by kernel_rfl) ?_
  refine G.call0 _ _ (by kernel_rfl) Tryz.call72 (compare0 p q) ?_
  rintro v1 u1 l1 rfl
  by_cases h : 0 < cmpP p q
  · refine G.gtrT (cmpP p q) 0 (by kernel_rfl) h ?_
    refine G.ret (prV (q, p)) (by kernel_rfl) ⟨rfl, ?_⟩
    rw [pairP_gt h]
  · refine G.gtrF (cmpP p q) 0 (by kernel_rfl) h ?_
    refine G.ret (prV (p, q)) (by kernel_rfl) ⟨rfl, ?_⟩
    rw [pairP_le h]
theorem whole0 {u : PH} {n : Int} (h1 : -9223372036854775808 ≤ n) (h2 : n ≤ 9223372036854775807) : Contract Tryz.prog 83 [.int .i64 n] u PH.mt fun v u' m' => MomM m' u' v ⟨(n : Rat), fun _ => 0, fun _ => 0⟩ 0 := by
  refine Contract.of Tryz.func83 (by kernel_rfl) (by kernel_rfl) ?_
  refine G.call0 _ _ (by kernel_rfl) Tryz.call85 (fracOf0 h1 h2) ?_
  intro v1 u1 l1 k1
  obtain ⟨b, a, nn, c, b', a', n', c', rfl⟩ := k1.opn
  refine G.mapMk (by kernel_rfl) ?_
  intro g1 hm1 hu1
  refine G.mapMk (by kernel_rfl) ?_
  intro g2 hm2 hu2
  have hne : g1 ≠ g2 := fun e => by subst e; rw [upd_same] at hm2; cases hm2
  exact G.ret (.agg #[.bool b, .slice a nn c, .bool b', .slice a' n' c', .map (some g1), .map (some g2)]) (by kernel_rfl) ⟨b, a, nn, c, b', a', n', c', g1, g2, _, _, rfl, k1, hne, rfl, MapR.empty 12, MapR.empty 12⟩
end Go.Proofs.YtikfmknnbjocmaaGreatDoor
end
section
set_option linter.unusedSectionVars false
set_option linter.unusedVariables false
namespace Go.Proofs.YtikfmknnbjocmaaGreatDoor
open Go.RowKit Go.MapKept
abbrev valL (b : Bool) (a : Option Addr) (n c : Nat) (b' : Bool) (a' : Option Addr) (n' c' g1 g2 : Nat) : List Value := [.bool b, .slice a n c, .bool b', .slice a' n' c', .map (some g1), .map (some g2)]
def valC (b : Bool) (a : Option Addr) (n c : Nat) (b' : Bool) (a' : Option Addr) (n' c' g1 g2 : Nat) : Obj := .cells (valL b a n c b' a' n' c' g1 g2).toArray 92 (0, 0)
theorem valC_0 {m : PH} {x : Nat} {b : Bool} {a : Option Addr} {n c : Nat} {b' : Bool} {a' : Option Addr} {n' c' g1 g2 : Nat} (h : m x = some (valC b a n c b' a' n' c' g1 g2)) : ElP m x (0 + 0) (.agg #[.bool b, .slice a n c, .bool b', .slice a' n' c']) := fun i y hy => by
  match i, hy with
  | 0, hy => exact ⟨_, _, _, h, by simpa [Value.cells] using hy⟩
  | 1, hy => exact ⟨_, _, _, h, by simpa [Value.cells] using hy⟩
  | 2, hy => exact ⟨_, _, _, h, by simpa [Value.cells] using hy⟩
  | 3, hy => exact ⟨_, _, _, h, by simpa [Value.cells] using hy⟩
  | k + 4, hy => simp [Value.cells] at hy
theorem valC_4 {m : PH} {x : Nat} {b : Bool} {a : Option Addr} {n c : Nat} {b' : Bool} {a' : Option Addr} {n' c' g1 g2 : Nat} (h : m x = some (valC b a n c b' a' n' c' g1 g2)) : ElP m x (0 + 4) (.map (some g1)) := fun i y hy => by
  match i, hy with
  | 0, hy => exact ⟨_, _, _, h, by simpa [Value.cells] using hy⟩
  | k + 1, hy => simp [Value.cells] at hy
theorem valC_5 {m : PH} {x : Nat} {b : Bool} {a : Option Addr} {n c : Nat} {b' : Bool} {a' : Option Addr} {n' c' g1 g2 : Nat} (h : m x = some (valC b a n c b' a' n' c' g1 g2)) : ElP m x (0 + 5) (.map (some g2)) := fun i y hy => by
  match i, hy with
  | 0, hy => exact ⟨_, _, _, h, by simpa [Value.cells] using hy⟩
  | k + 1, hy => simp [Value.cells] at hy
theorem valC_all {m : PH} {x : Nat} {b : Bool} {a : Option Addr} {n c : Nat} {b' : Bool} {a' : Option Addr} {n' c' g1 g2 : Nat} (h : m x = some (valC b a n c b' a' n' c' g1 g2)) : ElP m x 0 (.agg #[.bool b, .slice a n c, .bool b', .slice a' n' c', .map (some g1), .map (some g2)]) := fun i y hy => by
  match i, hy with
  | 0, hy => exact ⟨_, _, _, h, by simpa [Value.cells] using hy⟩
  | 1, hy => exact ⟨_, _, _, h, by simpa [Value.cells] using hy⟩
  | 2, hy => exact ⟨_, _, _, h, by simpa [Value.cells] using hy⟩
  | 3, hy => exact ⟨_, _, _, h, by simpa [Value.cells] using hy⟩
  | 4, hy => exact ⟨_, _, _, h, by simpa [Value.cells] using hy⟩
  | 5, hy => exact ⟨_, _, _, h, by simpa [Value.cells] using hy⟩
  | k + 6, hy => simp [Value.cells] at hy
theorem valL_ok {b : Bool} {a : Option Addr} {n c : Nat} {b' : Bool} {a' : Option Addr} {n' c' g1 g2 : Nat} : ∀ x ∈ valL b a n c b' a' n' c' g1 g2, cellOK x = true := fun x hx => by
  simp at hx; rcases hx with rfl | rfl | rfl | rfl | rfl | rfl <;> rfl
def M3 (bx g1 g2 : Nat) (x o1 o2 : Obj) : PH := ((PH.mt.upd g1 o1).upd g2 o2).upd bx x
theorem M3_le {bx g1 g2 : Nat} {x o1 o2 : Obj} {m : PH} (h0 : m bx = some x) (h1 : m g1 = some o1) (h2 : m g2 = some o2) : PH.le (M3 bx g1 g2 x o1 o2) m := fun g o hg => by
  unfold M3 at hg
  by_cases e : g = bx
  · subst e; rw [upd_same] at hg; cases hg; exact h0
  · rw [upd_ne _ _ e] at hg
    by_cases e : g = g2
    · subst e; rw [upd_same] at hg; cases hg; exact h2
    · rw [upd_ne _ _ e] at hg
      by_cases e : g = g1
      · subst e; rw [upd_same] at hg; cases hg; exact h1
      · rw [upd_ne _ _ e] at hg; cases hg
def MomB (bx : Nat) (m u : PH) (F : CF) (N : Nat) : Prop :=
  ∃ b a n c b' a' n' c' g1 g2 o1 o2, bx ≠ g1 ∧ bx ≠ g2 ∧ g1 ≠ g2 ∧ m = M3 bx g1 g2 (valC b a n c b' a' n' c' g1 g2) o1 o2 ∧ FracP u (.agg #[.bool b, .slice a n c, .bool b', .slice a' n' c']) F.c ∧ MapR parV FracP true u o1 F.s N 12 ∧ MapR prV FracP true u o2 F.t N 12
theorem MomB.grow {bx : Nat} {m u u' : PH} {F : CF} {N : Nat} (h : MomB bx m u F N) (hl : PH.le u u') : MomB bx m u' F N := by
  obtain ⟨b, a, n, c, b', a', n', c', g1, g2, o1, o2, e1, e2, e3, e4, h1, h2, h3⟩ := h
  exact ⟨b, a, n, c, b', a', n', c', g1, g2, o1, o2, e1, e2, e3, e4, h1.mono hl, h2.mf hl, h3.mf hl⟩
section
variable {κ : Type} [DecidableEq κ]
def addL (f g : κ → Rat) (q : Rat) (L : List κ) : κ → Rat := fun k => if k ∈ L then g k * q + f k else f k
theorem addL_snoc (f g : κ → Rat) (q : Rat) {L : List κ} {k : κ} (h : k ∉ L) : setF (addL f g q L) k (g k * q + addL f g q L k) = addL f g q (L ++ [k]) := by
  funext j
  unfold setF addL
  by_cases e : j = k
  · subst e; rw [if_pos rfl, if_neg h, if_pos (by simp)]
  · rw [if_neg e]
    by_cases hj : j ∈ L
    · rw [if_pos hj, if_pos (by simp [hj])]
    · rw [if_neg hj, if_neg (by simp [hj, e])]
theorem addL_all (f g : κ → Rat) (q : Rat) {L : List κ} (h : ∀ k, k ∉ L → g k = 0) : addL f g q L = fun k => f k + g k * q := by
  funext k
  unfold addL
  by_cases hk : k ∈ L
  · rw [if_pos hk]; grind
  · rw [if_neg hk, h k hk]; grind
theorem addL_sb {f g : κ → Rat} {q : Rat} {L : List κ} (h1 : ∀ k, SB (f k)) (h2 : ∀ k, SB (f k + g k * q)) (k : κ) : SB (addL f g q L k) := by
  unfold addL
  split
  · rw [Rat.add_comm]; exact h2 k
  · exact h1 k
end
set_option maxHeartbeats 4000000 in
theorem include0 {u m : PH} {bx : Nat} {F H : CF} {N M : Nat} {w kv : Value} {q : Rat} (hm : MomB bx m u F N) (hw : MomP u w H M) (hk : FracP u kv q) (hq : SB q) (sF : CFS F) (sH : CFS H) (sK : CFS (H.scale q)) (sR : CFS (F.add (H.scale q))) :
    Contract Tryz.prog 93 [.pointer (some ⟨bx, 0, none⟩), w, kv] u m fun v u' m' => MomB bx m' u' (F.add (H.scale q)) (N + M) := by
  obtain ⟨b, a, n, c, b', a', n', c', g1, g2, o1, o2, ne1, ne2, ne3, rfl, hF, h1, h2⟩ := hm
  obtain ⟨wb, wa, wn, wc, wb', wa', wn', wc', w1, w2, p1, p2, rfl, hH, e1, e2, k1, k2⟩ := hw
  obtain ⟨kb, ka, kn, kc, kb', ka', kn', kc', rfl⟩ := hk.opn
  obtain ⟨l1, ⟨es1, clk1, rfl, hkv1, hst1⟩, hl1, hz1, hn1⟩ := k1.at
  obtain ⟨l2, ⟨es2, clk2, rfl, hkv2, hst2⟩, hl2, hz2, hn2⟩ := k2.at
  have hnd1 : (l1.map (·.1)).Nodup := MapO.nodup (enc := parV) ⟨es1, clk1, rfl, hkv1, hst1⟩
  have hnd2 : (l2.map (·.1)).Nodup := MapO.nodup (enc := prV) ⟨es2, clk2, rfl, hkv2, hst2⟩
  refine Contract.of Tryz.func93 (by kernel_rfl) (by kernel_rfl) ?_
  refine G.fieldA 92 bx 0 0 0 (by kernel_rfl) (by kernel_rfl) ?_
  refine G.loadM (some 4) bx (0 + 0) (.agg #[.bool b, .slice a n c, .bool b', .slice a' n' c']) (by kernel_rfl) (by kernel_rfl) (valC_0 (upd_same _ _ _)) ?_
  refine G.call0 _ _ (by kernel_rfl) Tryz.call94 (fracMul0 hH hk (SB.big sH.c) hq.big) ?_
  intro v1 u1 le1 r1
  obtain ⟨b1, a1, x1, c1, b1', a1', x1', c1', rfl⟩ := r1.opn
  refine G.call0 _ _ (by kernel_rfl) Tryz.call95 (fracAdd0 (hF.mono le1) r1 (SB.big sF.c) (SB.big sK.c)) ?_
  intro v2 u2 le2 r2
  obtain ⟨b2, a2, x2, c2, b2', a2', x2', c2', rfl⟩ := r2.opn
  refine G.fieldA 92 bx 0 0 0 (by kernel_rfl) (by kernel_rfl) ?_
  refine G.storeM 4 bx (0 + 0) 92 (valL b a n c b' a' n' c' g1 g2) (.agg #[.bool b2, .slice a2 x2 c2, .bool b2', .slice a2' x2' c2']) (by kernel_rfl) (upd_same _ _ _) valL_ok (by simp) rfl rfl ?_
  obtain ⟨m2, hm2, hb2, hg2, hh2⟩ : ∃ m2 : PH, m2 = (M3 bx g1 g2 (valC b a n c b' a' n' c' g1 g2) o1 o2).upd bx (valC b2 a2 x2 c2 b2' a2' x2' c2' g1 g2) ∧ m2 bx = some (valC b2 a2 x2 c2 b2' a2' x2' c2' g1 g2) ∧ m2 g1 = some o1 ∧ m2 g2 = some o2 :=
    ⟨_, rfl, upd_same _ _ _, by rw [upd_ne _ _ (Ne.symm ne1)]; unfold M3; rw [upd_ne _ _ (Ne.symm ne1), upd_ne _ _ ne3, upd_same], by rw [upd_ne _ _ (Ne.symm ne2)]; unfold M3; rw [upd_ne _ _ (Ne.symm ne2), upd_same]⟩
  show G _ _ _ _ _ ((M3 bx g1 g2 (valC b a n c b' a' n' c' g1 g2) o1 o2).upd bx (valC b2 a2 x2 c2 b2' a2' x2' c2' g1 g2))
  rw [← hm2]
  have le12 := le1.trans le2
  refine G.mapRange w1 es1 clk1 43 88 (by kernel_rfl) (.inl (le12 _ _ e1)) ?_
  intro it him hiu
  have ib : bx ≠ it := fun e => by subst e; rw [him] at hb2; cases hb2
  have i1 : g1 ≠ it := fun e => by subst e; rw [him] at hg2; cases hg2
  have i2 : g2 ≠ it := fun e => by subst e; rw [him] at hh2; cases hh2
  refine G.loop (ι := List MapEntry × List (Par × Value)) (fun _ => [(0, .v (.pointer (some ⟨bx, 0, none⟩))), (4, .p 0 0), (5, .p 1 0), (24, .v (.pointer (some ⟨it, 0, none⟩)))])
    (fun _ => [(0, ⟨92, [.v (.bool wb), .v (.slice wa wn wc), .v (.bool wb'), .v (.slice wa' wn' wc'), .v (.map (some w1)), .v (.map (some w2))]⟩), (1, ⟨88, [.v (.bool kb), .v (.slice ka kn kc), .v (.bool kb'), .v (.slice ka' kn' kc')]⟩)])
    (fun i u' m' => Seen parV es1 l1 i.1 i.2 ∧ m' it = some (.mapIter (some w1) clk1 (seenOf i.1) clk1) ∧ m' bx = some (valC b2 a2 x2 c2 b2' a2' x2' c2' g1 g2) ∧ m' g2 = some o2 ∧ ∃ o1', m' g1 = some o1' ∧ MapR parV FracP true u' o1' (addL F.s H.s q (i.2.map (·.1))) (N + i.2.length) 12)
    (fun i => l1.length - i.2.length) ([], []) (by kernel_rfl) (fun _ => by kernel_rfl) ⟨by kernel_rfl, by kernel_rfl, by kernel_rfl⟩
    ⟨Seen.nil _ _, upd_same _ _ _, by rw [upd_ne _ _ ib]; exact hb2, by rw [upd_ne _ _ i2]; exact hh2, o1, by rw [upd_ne _ _ i1]; exact hg2, by
      have : addL F.s H.s q (([] : List (Par × Value)).map (·.1)) = F.s := by funext k; simp [addL]
      dsimp only; rw [this]; exact h1.mf le12⟩ ?_
  rintro J ⟨D, L⟩ hJ u3 m3 le3 ⟨hS, hit, hbx, hm2g, o1', hg1, hR⟩
  simp only at hS hit hbx hm2g hg1 hR hJ
  have le13 := le12.trans le3
  refine G.mapNextL keyPar.inj it w1 es1 clk1 l1 D L (by kernel_rfl) (by kernel_rfl) hit (.inl (le13 _ _ e1)) hst1 hkv1 hnd1 hS ?done1 ?next1
  case next1 =>
    rintro ⟨k, xv⟩ e hp hkn he hek hev hS'
    simp only at hkn hek hev
    have hx := (hl1 _ hp).1
    simp only at hx
    obtain ⟨yb, ya, yn, yc, yb', ya', yn', yc', rfl⟩ := hx.opn
    refine G.mapEntry it w1 es1 clk1 D e (by kernel_rfl) (upd_same _ _ _) (.inl (le13 _ _ e1)) hst1 he ?_
    rw [hek, hev]
    refine G.fieldA 92 bx 0 1 4 (by kernel_rfl) (by kernel_rfl) ?_
    refine G.loadM none bx (0 + 4) (.map (some g1)) (by kernel_rfl) (by kernel_rfl) (valC_4 (by rw [upd_ne _ _ ib]; exact hbx)) ?_
    refine G.call0 _ _ (by kernel_rfl) Tryz.call94 (fracMul0 (hx.mono le13) (hk.mono le13) (SB.big (sH.s k)) hq.big) ?_
    intro v4 u4 le4 r4
    obtain ⟨b4, a4, x4, c4, b4', a4', x4', c4', rfl⟩ := r4.opn
    refine G.callG _ _ (by kernel_rfl) (by kernel_rfl) Tryz.call137 (g := g1) (o := o1') (by rw [upd_ne _ _ i1]; exact hg1)
      (notePar0 (hR.mf le4) r4 (sK.s k) (addL_sb sF.s sR.s k) (by
        have : addL F.s H.s q (L.map (·.1)) k = F.s k := by unfold addL; rw [if_neg hkn]
        rw [this, Rat.add_comm]; exact sR.s k)) ?_
    intro v5 u5 o5 le5 r5
    rw [addL_snoc _ _ _ hkn] at r5
    refine G.back (by kernel_rfl) (hJ (D ++ [e], L ++ [(k, _)]) _ _ _ ⟨by kernel_rfl, by kernel_rfl, by kernel_rfl⟩ ((le3.trans le4).trans le5)
      ⟨hS', by rw [upd_ne _ _ (Ne.symm i1), upd_same], by rw [upd_ne _ _ ne1, upd_ne _ _ ib]; exact hbx, by rw [upd_ne _ _ (Ne.symm ne3), upd_ne _ _ i2]; exact hm2g, o5, upd_same _ _ _, by
        simpa [Nat.add_assoc] using r5⟩ (by have := hS'.len; simp at this; dsimp only; simp; omega))
  case done1 =>
  intro hall
  have hF1 : addL F.s H.s q (L.map (·.1)) = (F.add (H.scale q)).s := addL_all _ _ _ fun k hk => hz1 k fun hm => hk (by
    obtain ⟨p, hp, rfl⟩ := List.mem_map.1 hm
    exact List.mem_map.2 ⟨p, hall p hp, rfl⟩)
  rw [hF1] at hR
  have hLl := hS.len
  refine G.mapRange w2 es2 clk2 144 88 (by kernel_rfl) (.inl (le13 _ _ e2)) ?_
  intro it2 him2 hiu2
  have jb : bx ≠ it2 := fun e => by subst e; rw [him2] at hbx; cases hbx
  have j1 : g1 ≠ it2 := fun e => by subst e; rw [him2] at hg1; cases hg1
  have j2 : g2 ≠ it2 := fun e => by subst e; rw [him2] at hm2g; cases hm2g
  refine G.loop (ι := List MapEntry × List ((Par × Par) × Value)) (fun _ => [(0, .v (.pointer (some ⟨bx, 0, none⟩))), (5, .p 1 0), (41, .v (.pointer (some ⟨it2, 0, none⟩)))])
    (fun _ => [(1, ⟨88, [.v (.bool kb), .v (.slice ka kn kc), .v (.bool kb'), .v (.slice ka' kn' kc')]⟩)])
    (fun i u' m' => Seen prV es2 l2 i.1 i.2 ∧ m' it2 = some (.mapIter (some w2) clk2 (seenOf i.1) clk2) ∧ m' bx = some (valC b2 a2 x2 c2 b2' a2' x2' c2' g1 g2) ∧ m' g1 = some o1' ∧ ∃ o2', m' g2 = some o2' ∧ MapR prV FracP true u' o2' (addL F.t H.t q (i.2.map (·.1))) (N + i.2.length) 12)
    (fun i => l2.length - i.2.length) ([], []) (by kernel_rfl) (fun _ => by kernel_rfl) ⟨by kernel_rfl, by kernel_rfl, by kernel_rfl⟩
    ⟨Seen.nil _ _, upd_same _ _ _, by rw [upd_ne _ _ jb]; exact hbx, by rw [upd_ne _ _ j1]; exact hg1, o2, by rw [upd_ne _ _ j2]; exact hm2g, by
      have : addL F.t H.t q (([] : List ((Par × Par) × Value)).map (·.1)) = F.t := by funext k; simp [addL]
      dsimp only; rw [this]; exact h2.mf le13⟩ ?_
  rintro J2 ⟨D2, L2⟩ hJ2 u6 m6 le6 ⟨hS2, hit2, hbx2, hm1g, o2', hg22, hR2⟩
  simp only at hS2 hit2 hbx2 hm1g hg22 hR2 hJ2
  have le16 := le13.trans le6
  refine G.mapNextL keyPr.inj it2 w2 es2 clk2 l2 D2 L2 (by kernel_rfl) (by kernel_rfl) hit2 (.inl (le16 _ _ e2)) hst2 hkv2 hnd2 hS2 ?done2 ?next2
  case next2 =>
    rintro ⟨k, xv⟩ e hp hkn he hek hev hS'
    simp only at hkn hek hev
    have hx := (hl2 _ hp).1
    simp only at hx
    obtain ⟨yb, ya, yn, yc, yb', ya', yn', yc', rfl⟩ := hx.opn
    refine G.mapEntry it2 w2 es2 clk2 D2 e (by kernel_rfl) (upd_same _ _ _) (.inl (le16 _ _ e2)) hst2 he ?_
    rw [hek, hev]
    refine G.fieldA 92 bx 0 2 5 (by kernel_rfl) (by kernel_rfl) ?_
    refine G.loadM none bx (0 + 5) (.map (some g2)) (by kernel_rfl) (by kernel_rfl) (valC_5 (by rw [upd_ne _ _ jb]; exact hbx2)) ?_
    refine G.call0 _ _ (by kernel_rfl) Tryz.call94 (fracMul0 (hx.mono le16) (hk.mono le16) (SB.big (sH.t k)) hq.big) ?_
    intro v4 u4 le4 r4
    obtain ⟨b4, a4, x4, c4, b4', a4', x4', c4', rfl⟩ := r4.opn
    refine G.callG _ _ (by kernel_rfl) (by kernel_rfl) Tryz.call96 (g := g2) (o := o2') (by rw [upd_ne _ _ j2]; exact hg22)
      (notePr0 (hR2.mf le4) r4 (sK.t k) (addL_sb sF.t sR.t k) (by
        have : addL F.t H.t q (L2.map (·.1)) k = F.t k := by unfold addL; rw [if_neg hkn]
        rw [this, Rat.add_comm]; exact sR.t k)) ?_
    intro v5 u5 o5 le5 r5
    rw [addL_snoc _ _ _ hkn] at r5
    refine G.back (by kernel_rfl) (hJ2 (D2 ++ [e], L2 ++ [(k, _)]) _ _ _ ⟨by kernel_rfl, by kernel_rfl, by kernel_rfl⟩ ((le6.trans le4).trans le5)
      ⟨hS', by rw [upd_ne _ _ (Ne.symm j2), upd_same], by rw [upd_ne _ _ ne2, upd_ne _ _ jb]; exact hbx2, by rw [upd_ne _ _ ne3, upd_ne _ _ j1]; exact hm1g, o5, upd_same _ _ _, by
        simpa [Nat.add_assoc] using r5⟩ (by have := hS'.len; simp at this; dsimp only; simp; omega))
  case done2 =>
  intro hall2
  have hF2 : addL F.t H.t q (L2.map (·.1)) = (F.add (H.scale q)).t := addL_all _ _ _ fun k hk => hz2 k fun hm => hk (by
    obtain ⟨p, hp, rfl⟩ := List.mem_map.1 hm
    exact List.mem_map.2 ⟨p, hall2 p hp, rfl⟩)
  rw [hF2] at hR2
  have hLl2 := hS2.len
  refine G.drop (M3 bx g1 g2 (valC b2 a2 x2 c2 b2' a2' x2' c2' g1 g2) o1' o2') (by kernel_rfl) (M3_le hbx2 hm1g hg22) ?_
  exact G.ret (.tuple #[]) (by kernel_rfl) ⟨b2, a2, x2, c2, b2', a2', x2', c2', g1, g2, o1', o2', ne1, ne2, ne3, rfl, r2.mono (le3.trans le6), (hR.mf le6).up (by omega) (Nat.le_refl _), hR2.up (by omega) (Nat.le_refl _)⟩
end Go.Proofs.YtikfmknnbjocmaaGreatDoor
end
section
set_option linter.unusedSectionVars false
set_option linter.unusedVariables false
namespace Go.Proofs.YtikfmknnbjocmaaGreatDoor
open Go.RowKit Go.MapKept
def isEqT (t : TypeId) : Op → Bool
  | .binOp _ t' .. => Nat.beq t' t
  | _ => false
section rules
variable [Flag] {P : Program} [Mixed P] {fn : Func} {Post : Spec} {st : List KI × S} {u m : PH}
theorem eqGuard_agg {op : BinOp} {t : TypeId} {xs ys : Array Value} (X Y : Operand) (hg : P.eqGuardType P.depth t = false) (w : World) : (eqGuard op t X Y (.agg xs) (.agg ys)).run P w = .ok () w := by
  unfold eqGuard; split <;> simp [hg]
theorem G.eqAgg (t : TypeId) (xs ys : Array Value) (r : Bool) (h : stopV P (adv P st) = .binT .eql (P.underlying t) (.agg xs) (.agg ys)) (hq : stopQ (isEqT t) (adv P st) = true) (hg : P.eqGuardType P.depth t = false) (he : ∀ w, (Op.equal t (.agg xs) (.agg ys)).run P w = .ok r w)
    (k : G P fn Post (nx (adv P st) (.bool r)) u m) : G P fn Post st u m := by
  refine G.askQ (isEqT t) h hq (by simp) (fun env o hview hQ w _ => ?_) k
  obtain ⟨t', X, Y, yt, e, e1, e2, e3⟩ := view_binT hview
  obtain ⟨dst, opp, type, pos, after, guard⟩ := o
  simp only at e; subst e
  obtain rfl : t' = t := Nat.eq_of_beq_eq_true hQ
  simp [execOp, e1, e2, eqGuard_agg X Y hg, binOp, he]
theorem G.neAgg (t : TypeId) (xs ys : Array Value) (r : Bool) (h : stopV P (adv P st) = .binT .neq (P.underlying t) (.agg xs) (.agg ys)) (hq : stopQ (isEqT t) (adv P st) = true) (hg : P.eqGuardType P.depth t = false) (he : ∀ w, (Op.equal t (.agg xs) (.agg ys)).run P w = .ok r w)
    (k : G P fn Post (nx (adv P st) (.bool (!r))) u m) : G P fn Post st u m := by
  refine G.askQ (isEqT t) h hq (by simp) (fun env o hview hQ w _ => ?_) k
  obtain ⟨t', X, Y, yt, e, e1, e2, e3⟩ := view_binT hview
  obtain ⟨dst, opp, type, pos, after, guard⟩ := o
  simp only at e; subst e
  obtain rfl : t' = t := Nat.eq_of_beq_eq_true hQ
  simp [execOp, e1, e2, eqGuard_agg X Y hg, binOp, he]
end rules
theorem CF.zero_add (a : CF) : (CF.zero).add a = a := by rw [CF.add_comm, CF.add_zero]
theorem CFS.zero : CFS CF.zero := ⟨SB.zero, fun _ => SB.zero, fun _ => SB.zero⟩
theorem momB_of {m' u : PH} {v : Value} {F : CF} {N : Nat} (h : MomM m' u v F N) : ∃ b a n c b' a' n' c' g1 g2, v = .agg #[.bool b, .slice a n c, .bool b', .slice a' n' c', .map (some g1), .map (some g2)] ∧
    ∀ bx, m' bx = none → MomB bx (m'.upd bx (.cells (valL b a n c b' a' n' c' g1 g2).toArray 92 (0, 0))) u F N := by
  obtain ⟨b, a, n, c, b', a', n', c', g1, g2, o1, o2, e, h1, h2, rfl, h4, h5⟩ := h
  refine ⟨b, a, n, c, b', a', n', c', g1, g2, e, fun bx hb => ⟨b, a, n, c, b', a', n', c', g1, g2, o1, o2, ?_, ?_, h2, rfl, h1, h4, h5⟩⟩
  · rintro rfl; rw [upd_ne _ _ h2, upd_same] at hb; cases hb
  · rintro rfl; rw [upd_same] at hb; cases hb
theorem MomB.opn {bx : Nat} {m u : PH} {F : CF} {N : Nat} (h : MomB bx m u F N) : ∃ b a n c b' a' n' c' g1 g2 o1 o2, m bx = some (valC b a n c b' a' n' c' g1 g2) ∧ PH.le ((PH.mt.upd g1 o1).upd g2 o2) m ∧ MomM ((PH.mt.upd g1 o1).upd g2 o2) u (.agg #[.bool b, .slice a n c, .bool b', .slice a' n' c', .map (some g1), .map (some g2)]) F N := by
  obtain ⟨b, a, n, c, b', a', n', c', g1, g2, o1, o2, e1, e2, e3, rfl, h1, h2, h3⟩ := h
  refine ⟨b, a, n, c, b', a', n', c', g1, g2, o1, o2, upd_same _ _ _, ?_, b, a, n, c, b', a', n', c', g1, g2, o1, o2, rfl, h1, e3, rfl, h2, h3⟩
  exact le_upd _ (by rw [upd_ne _ _ e2, upd_ne _ _ e1]; rfl)
set_option maxHeartbeats 2000000 in
theorem scaleM0 {u : PH} {F : CF} {N : Nat} {v kv : Value} {q : Rat} (hv : MomP u v F N) (hk : FracP u kv q) (hq : SB q) (sF : CFS F) (sK : CFS (F.scale q)) :
    Contract Tryz.prog 53 [v, kv] u PH.mt fun v' u' m' => MomM m' u' v' (F.scale q) N := by
  obtain ⟨wb, wa, wn, wc, wb', wa', wn', wc', w1, w2, p1, p2, rfl, hH⟩ := id hv
  obtain ⟨kb, ka, kn, kc, kb', ka', kn', kc', rfl⟩ := hk.opn
  refine Contract.of Tryz.func53 (by kernel_rfl) (by kernel_rfl) ?_
  refine G.callO _ _ (by kernel_rfl) Tryz.call83 (whole0 (n := 0) (by omega) (by omega)) ?_
  rintro v1 u1 m1 l1 r1 _
  rw [mt_or]
  obtain ⟨b, a, n, c, b', a', n', c', g1, g2, rfl, hB⟩ := momB_of r1
  refine G.pub 1001 92 (valL b a n c b' a' n' c' g1 g2) (by kernel_rfl) (by kernel_rfl) ?_
  intro bx hu hm
  refine G.callA _ _ (by kernel_rfl) (by kernel_rfl) Tryz.call93 (mt_or _).symm (apart_mt _) (include0 (hB bx hm) (hv.mono l1) (hk.mono l1) hq CFS.zero sF sK (by show CFS (CF.zero.add _); rw [CF.zero_add]; exact sK)) ?_
  rintro v2 u2 m2 l2 r2 _
  rw [mt_or]
  obtain ⟨b, a, n, c, b', a', n', c', g1, g2, o1, o2, hbx, hle, hM⟩ := r2.opn
  refine G.loadM (some 6) bx 0 (.agg #[.bool b, .slice a n c, .bool b', .slice a' n' c', .map (some g1), .map (some g2)]) (by kernel_rfl) (by kernel_rfl) (valC_all hbx) ?_
  refine G.drop _ (by kernel_rfl) hle ?_
  exact G.ret (.agg #[.bool b, .slice a n c, .bool b', .slice a' n' c', .map (some g1), .map (some g2)]) (by kernel_rfl) (hM.congr (CF.zero_add _) (by omega))
theorem SB.one : SB 1 := by decide
theorem CF.scale_one (F : CF) : F.scale 1 = F := CF.ext' (by simp only [CF.scale]; grind) (fun p => by simp only [CF.scale]; grind) (fun q => by simp only [CF.scale]; grind)
set_option maxHeartbeats 2000000 in
theorem addM0 {u : PH} {F H : CF} {N M : Nat} {v w : Value} (hv : MomP u v F N) (hw : MomP u w H M) (sF : CFS F) (sH : CFS H) (sR : CFS (F.add H)) :
    Contract Tryz.prog 55 [v, w] u PH.mt fun v' u' m' => MomM m' u' v' (F.add H) (N + M) := by
  obtain ⟨vb, va, vn, vc, vb', va', vn', vc', v1, v2, q1, q2, rfl, hvc⟩ := id hv
  obtain ⟨wb, wa, wn, wc, wb', wa', wn', wc', w1, w2, p1, p2, rfl, hwc⟩ := id hw
  refine Contract.of Tryz.func55 (by kernel_rfl) (by kernel_rfl) ?_
  refine G.call0 _ _ (by kernel_rfl) Tryz.call85 (fracOf0 (z := 1) (by omega) (by omega)) ?_
  intro f1 u1 l1 r1
  obtain ⟨kb, ka, kn, kc, kb', ka', kn', kc', rfl⟩ := r1.opn
  refine G.callO _ _ (by kernel_rfl) Tryz.call53 (scaleM0 (hv.mono l1) r1 SB.one sF (by show CFS (F.scale 1); rw [CF.scale_one]; exact sF)) ?_
  rintro f2 u2 m2 l2 r2 _
  rw [mt_or]
  obtain ⟨b, a, n, c, b', a', n', c', g1, g2, rfl, hB⟩ := momB_of (r2.congr (CF.scale_one F) (Nat.le_refl _))
  refine G.pub 1003 92 (valL b a n c b' a' n' c' g1 g2) (by kernel_rfl) (by kernel_rfl) ?_
  intro bx hu hm
  refine G.call0 _ _ (by kernel_rfl) Tryz.call85 (fracOf0 (z := 1) (by omega) (by omega)) ?_
  intro f3 u3 l3 r3
  obtain ⟨kb, ka, kn, kc, kb', ka', kn', kc', rfl⟩ := r3.opn
  have hB2 := hB bx hm
  refine G.callA _ _ (by kernel_rfl) (by kernel_rfl) Tryz.call93 (mt_or _).symm (apart_mt _) (include0 (hB2.grow l3) ((hw.mono (l1.trans l2)).mono l3) r3 SB.one sF sH (by show CFS (H.scale 1); rw [CF.scale_one]; exact sH) (by show CFS (F.add (H.scale 1)); rw [CF.scale_one]; exact sR)) ?_
  rintro f4 u4 m4 l4 r4 _
  rw [mt_or]
  obtain ⟨b, a, n, c, b', a', n', c', g1, g2, o1, o2, hbx, hle, hM⟩ := r4.opn
  refine G.loadM (some 6) bx 0 (.agg #[.bool b, .slice a n c, .bool b', .slice a' n' c', .map (some g1), .map (some g2)]) (by kernel_rfl) (by kernel_rfl) (valC_all hbx) ?_
  refine G.drop _ (by kernel_rfl) hle ?_
  exact G.ret (.agg #[.bool b, .slice a n c, .bool b', .slice a' n' c', .map (some g1), .map (some g2)]) (by kernel_rfl) (hM.congr (by show F.add (H.scale 1) = _; rw [CF.scale_one]) (by omega))
end Go.Proofs.YtikfmknnbjocmaaGreatDoor
end
section
set_option linter.unusedSectionVars false
set_option linter.unusedVariables false
namespace Go.Proofs.YtikfmknnbjocmaaGreatDoor
open Go.RowKit Go.MapKept
structure MulOK (F H : CF) : Prop where
  a : CFS F
  b : CFS H
  c : CFS (H.scale F.c)
  d : CFS (F.scale H.c)
  e : CFS ((H.scale F.c).add (F.scale H.c))
  f : SB (F.c * H.c)
  pr : ∀ p q, SB (F.s p * H.s q)
  con : ∀ x, SB (con F H x)
  acc : ∀ Ps : List (Par × Par), Ps.Nodup → ∀ k, SB (((H.scale F.c).add (F.scale H.c)).t k + crossL F H Ps k)
structure MulOK' (F H : CF) (base : Par × Par → Rat) : Prop where
  a : CFS F
  b : CFS H
  pr : ∀ p q, SB (F.s p * H.s q)
  con : ∀ x, SB (con F H x)
  acc : ∀ Ps : List (Par × Par), Ps.Nodup → ∀ k, SB (base k + crossL F H Ps k)
theorem mulOK {d e N M : Nat} {F H : CF} (h : CFD d N F) (h' : CFD e M H) (hd : d + e ≤ 50) (hN : 8 * (N * M) < 10 ^ 100) (h1 : 0 < N) (h2 : 0 < M) : MulOK F H := by
  have b1 : N ≤ N * M := Nat.le_mul_of_pos_right _ h2
  have b2 : M ≤ N * M := Nat.le_mul_of_pos_left _ h1
  have c1 : CFD (d + e) (N * M) (H.scale F.c) := by have := h'.scale h.c; rw [Nat.add_comm, Nat.mul_comm] at this; exact this
  have c2 : CFD (d + e) (N * M) (F.scale H.c) := h.scale h'.c
  exact ⟨h.cfs (by omega) (by omega), h'.cfs (by omega) (by omega), c1.cfs hd (by omega), c2.cfs hd (by omega), (c1.add c2).cfs hd (by omega), (h.c.mul h'.c).small hd (by omega),
    fun p q => ((h.s p).mul (h'.s q)).small hd (by omega), fun x => (con_dn h h' x).small hd (by omega), fun Ps hn k => (((c1.add c2).t k).add (cross_dn h h' hn k)).small hd (by omega)⟩
set_option maxHeartbeats 8000000 in
theorem mulM0 {u : PH} {F H : CF} {N M : Nat} {v w : Value} (hv : MomP u v F N) (hw : MomP u w H M) (ok : MulOK F H) :
    Contract Tryz.prog 46 [v, w] u PH.mt fun v' u' m' => MomM m' u' v' (F.mul H) (M + N + N * M) := by
  obtain ⟨vb, va, vn, vc, vb', va', vn', vc', v1, v2, q1, q2, rfl, hvc, f1, f2, s1, s2⟩ := id hv
  obtain ⟨wb, wa, wn, wc, wb', wa', wn', wc', w1, w2, p1, p2, rfl, hwc, e1, e2, t1, t2⟩ := id hw
  obtain ⟨lv, ⟨esv, clv, rfl, hkv, hsv⟩, hlv, hzv, hnv⟩ := s1.at
  obtain ⟨lw, ⟨esw, clw, rfl, hkw, hsw⟩, hlw, hzw, hnw⟩ := t1.at
  have hndv : (lv.map (·.1)).Nodup := MapO.nodup (enc := parV) ⟨esv, clv, rfl, hkv, hsv⟩
  have hndw : (lw.map (·.1)).Nodup := MapO.nodup (enc := parV) ⟨esw, clw, rfl, hkw, hsw⟩
  refine Contract.of Tryz.func46 (by kernel_rfl) (by kernel_rfl) ?_
  refine G.callO _ _ (by kernel_rfl) Tryz.call53 (scaleM0 hw hvc ok.a.c ok.b ok.c) ?_
  rintro f3 u3 m3 l3 r3 _
  rw [mt_or]
  obtain ⟨b, a, n, c, b', a', n', c', g1, g2, rfl, hB⟩ := momB_of r3
  refine G.pub 1004 92 (valL b a n c b' a' n' c' g1 g2) (by kernel_rfl) (by kernel_rfl) ?_
  intro bx hu hm
  refine G.callA _ _ (by kernel_rfl) (by kernel_rfl) Tryz.call93 (mt_or _).symm (apart_mt _) (include0 (hB bx hm) (hv.mono l3) (hwc.mono l3) ok.b.c ok.c ok.a ok.d ok.e) ?_
  rintro f4 u4 m4 l4 r4 _
  rw [mt_or]
  obtain ⟨b, a, n, c, b', a', n', c', g1, g2, o1, o2, ne1, ne2, ne3, rfl, hC, hS1, hT1⟩ := r4
  have le4 := l3.trans l4
  refine G.call0 _ _ (by kernel_rfl) Tryz.call94 (fracMul0 (hvc.mono le4) (hwc.mono le4) (SB.big ok.a.c) (SB.big ok.b.c)) ?_
  intro f5 u5 l5 r5
  obtain ⟨b2, a2, x2, c2, b2', a2', x2', c2', rfl⟩ := r5.opn
  refine G.fieldA 92 bx 0 0 0 (by kernel_rfl) (by kernel_rfl) ?_
  refine G.storeM 4 bx (0 + 0) 92 (valL b a n c b' a' n' c' g1 g2) (.agg #[.bool b2, .slice a2 x2 c2, .bool b2', .slice a2' x2' c2']) (by kernel_rfl) (upd_same _ _ _) valL_ok (by simp) rfl rfl ?_
  obtain ⟨m5, hm5, hb5, hg5, hh5⟩ : ∃ m5 : PH, m5 = (M3 bx g1 g2 (valC b a n c b' a' n' c' g1 g2) o1 o2).upd bx (valC b2 a2 x2 c2 b2' a2' x2' c2' g1 g2) ∧ m5 bx = some (valC b2 a2 x2 c2 b2' a2' x2' c2' g1 g2) ∧ m5 g1 = some o1 ∧ m5 g2 = some o2 :=
    ⟨_, rfl, upd_same _ _ _, by rw [upd_ne _ _ (Ne.symm ne1)]; unfold M3; rw [upd_ne _ _ (Ne.symm ne1), upd_ne _ _ ne3, upd_same], by rw [upd_ne _ _ (Ne.symm ne2)]; unfold M3; rw [upd_ne _ _ (Ne.symm ne2), upd_same]⟩
  show G _ _ _ _ _ ((M3 bx g1 g2 (valC b a n c b' a' n' c' g1 g2) o1 o2).upd bx (valC b2 a2 x2 c2 b2' a2' x2' c2' g1 g2))
  rw [← hm5]
  have le5 := le4.trans l5
  obtain ⟨base, hbase⟩ : ∃ base : Par × Par → Rat, base = ((H.scale F.c).add (F.scale H.c)).t := ⟨_, rfl⟩
  have hacc := ok.acc
  rw [← hbase] at hT1
  refine G.mapRange v1 esv clv 43 88 (by kernel_rfl) (.inl (le5 _ _ f1)) ?_
  intro it him hiu
  have ib : bx ≠ it := fun e => by subst e; rw [him] at hb5; cases hb5
  have i1 : g1 ≠ it := fun e => by subst e; rw [him] at hg5; cases hg5
  have i2 : g2 ≠ it := fun e => by subst e; rw [him] at hh5; cases hh5
  refine G.loop (ι := List MapEntry × List (Par × Value)) (fun _ => [(2, .p 0 0), (3, .p 1 0), (4, .p 2 0), (5, .v (.pointer (some ⟨bx, 0, none⟩))), (27, .v (.pointer (some ⟨it, 0, none⟩)))])
    (fun _ => [(0, ⟨92, [.v (.bool vb), .v (.slice va vn vc), .v (.bool vb'), .v (.slice va' vn' vc'), .v (.map (some v1)), .v (.map (some v2))]⟩), (1, ⟨92, [.v (.bool wb), .v (.slice wa wn wc), .v (.bool wb'), .v (.slice wa' wn' wc'), .v (.map (some w1)), .v (.map (some w2))]⟩), (2, ⟨92, [.v (.bool false), .v (.slice none 0 0), .v (.bool false), .v (.slice none 0 0), .v (.map none), .v (.map none)]⟩)])
    (fun i u' m' => Seen parV esv lv i.1 i.2 ∧ m' it = some (.mapIter (some v1) clv (seenOf i.1) clv) ∧ m' bx = some (valC b2 a2 x2 c2 b2' a2' x2' c2' g1 g2) ∧ m' g1 = some o1 ∧ ∃ Ps : List (Par × Par), Ps.Nodup ∧ (∀ x : Par × Par, x ∈ Ps ↔ x.1 ∈ i.2.map (·.1) ∧ x.2 ∈ lw.map (·.1)) ∧ ∃ o2', m' g2 = some o2' ∧ MapR prV FracP true u' o2' (fun k => base k + crossL F H Ps k) (M + N + i.2.length * lw.length) 12)
    (fun i => lv.length - i.2.length) ([], []) (by kernel_rfl) (fun _ => by kernel_rfl) ⟨by kernel_rfl, by kernel_rfl, by kernel_rfl⟩
    ⟨Seen.nil _ _, upd_same _ _ _, by rw [upd_ne _ _ ib]; exact hb5, by rw [upd_ne _ _ i1]; exact hg5, [], by simp, by simp, o2, by rw [upd_ne _ _ i2]; exact hh5, ((hT1.mf l5).congr fun k => by simp only [crossL]; grind).up (by simp) (Nat.le_refl _)⟩ ?_
  rintro J ⟨D, L⟩ hJ u6 m6 l6 ⟨hS, hit, hbx, hm1g, Ps, hPn, hPm, o2', hg2, hR⟩
  simp only at hS hit hbx hm1g hPm hg2 hR hJ
  have le6 := le5.trans l6
  refine G.mapNextL keyPar.inj it v1 esv clv lv D L (by kernel_rfl) (by kernel_rfl) hit (.inl (le6 _ _ f1)) hsv hkv hndv hS ?done1 ?next1
  case next1 =>
    rintro ⟨p, xv⟩ e hp hpn he hek hev hS'
    simp only at hpn hek hev
    have hx := (hlv _ hp).1
    simp only at hx
    obtain ⟨yb, ya, yn, yc, yb', ya', yn', yc', rfl⟩ := hx.opn
    refine G.mapEntry it v1 esv clv D e (by kernel_rfl) (upd_same _ _ _) (.inl (le6 _ _ f1)) hsv he ?_
    rw [hek, hev]
    refine G.mapRange w1 esw clw 43 88 (by kernel_rfl) (.inl (le6 _ _ e1)) ?_
    intro it2 him2 hiu2
    have jb : bx ≠ it2 := fun e => by subst e; rw [upd_ne _ _ ib, hbx] at him2; cases him2
    have j1 : g1 ≠ it2 := fun e => by subst e; rw [upd_ne _ _ i1, hm1g] at him2; cases him2
    have j2 : g2 ≠ it2 := fun e => by subst e; rw [upd_ne _ _ i2, hg2] at him2; cases him2
    have k1 : it ≠ it2 := fun e => by subst e; rw [upd_same] at him2; cases him2
    have k2 : g2 ≠ it := i2
    refine G.loop (ι := List MapEntry × List (Par × Value)) (fun _ => [(2, .p 0 0), (3, .p 1 0), (4, .p 2 0), (5, .v (.pointer (some ⟨bx, 0, none⟩))), (6, .p 6003 0), (7, .p 6004 0), (27, .v (.pointer (some ⟨it, 0, none⟩))), (35, .v (.pointer (some ⟨it2, 0, none⟩)))])
      (fun _ => [(0, ⟨92, [.v (.bool vb), .v (.slice va vn vc), .v (.bool vb'), .v (.slice va' vn' vc'), .v (.map (some v1)), .v (.map (some v2))]⟩), (1, ⟨92, [.v (.bool wb), .v (.slice wa wn wc), .v (.bool wb'), .v (.slice wa' wn' wc'), .v (.map (some w1)), .v (.map (some w2))]⟩), (2, ⟨92, [.v (.bool false), .v (.slice none 0 0), .v (.bool false), .v (.slice none 0 0), .v (.map none), .v (.map none)]⟩), (6003, ⟨43, [.v (.int .i64 p.1), .v (.string (mkS p.2))]⟩), (6004, ⟨88, [.v (.bool yb), .v (.slice ya yn yc), .v (.bool yb'), .v (.slice ya' yn' yc')]⟩)])
      (fun i u' m' => Seen parV esw lw i.1 i.2 ∧ m' it2 = some (.mapIter (some w1) clw (seenOf i.1) clw) ∧ m' it = some (.mapIter (some v1) clv (seenOf (D ++ [e])) clv) ∧ m' bx = some (valC b2 a2 x2 c2 b2' a2' x2' c2' g1 g2) ∧ m' g1 = some o1 ∧ ∃ Qs : List (Par × Par), Qs.Nodup ∧ (∀ x : Par × Par, x ∈ Qs ↔ (x.1 ∈ L.map (·.1) ∧ x.2 ∈ lw.map (·.1)) ∨ (x.1 = p ∧ x.2 ∈ i.2.map (·.1))) ∧ ∃ oi, m' g2 = some oi ∧ MapR prV FracP true u' oi (fun k => base k + crossL F H Qs k) (M + N + L.length * lw.length + i.2.length) 12)
      (fun i => lw.length - i.2.length) ([], []) (by kernel_rfl) (fun _ => by kernel_rfl) ⟨by kernel_rfl, by kernel_rfl, by kernel_rfl⟩
      ⟨Seen.nil _ _, upd_same _ _ _, by rw [upd_ne _ _ k1, upd_same], by rw [upd_ne _ _ jb, upd_ne _ _ ib]; exact hbx, by rw [upd_ne _ _ j1, upd_ne _ _ i1]; exact hm1g, Ps, hPn, by intro x; rw [hPm]; simp, o2', by rw [upd_ne _ _ j2, upd_ne _ _ i2]; exact hg2, hR⟩ ?_
    rintro J2 ⟨D2, L2⟩ iJ ui mi ile ⟨iS, iit2, iit, ibx, ig1, Qs, hQn, hQm, oi, ig2, iR⟩
    simp only at iS iit2 iit ibx ig1 hQm ig2 iR iJ
    have lei := le6.trans ile
    refine G.mapNextL keyPar.inj it2 w1 esw clw lw D2 L2 (by kernel_rfl) (by kernel_rfl) iit2 (.inl (lei _ _ e1)) hsw hkw hndw iS ?done2 ?next2
    case next2 =>
      rintro ⟨k, yv⟩ e2 hk hkn he2 hek2 hev2 iS'
      simp only at hkn hek2 hev2
      have hy := (hlw _ hk).1
      simp only at hy
      obtain ⟨zb, za, zn, zc, zb', za', zn', zc', rfl⟩ := hy.opn
      have hnew : (p, k) ∉ Qs := fun h => by
        rcases (hQm _).1 h with h | h
        · exact hpn h.1
        · exact hkn h.2
      have hQn' : (Qs ++ [(p, k)]).Nodup := by
        rw [List.nodup_append]
        exact ⟨hQn, by simp, fun a ha b hb e' => hnew (by simp at hb; rw [← hb, ← e']; exact ha)⟩
      have hQm' : ∀ x : Par × Par, x ∈ Qs ++ [(p, k)] ↔ (x.1 ∈ L.map (·.1) ∧ x.2 ∈ lw.map (·.1)) ∨ (x.1 = p ∧ x.2 ∈ (L2 ++ [(k, Value.agg #[.bool zb, .slice za zn zc, .bool zb', .slice za' zn' zc'])]).map (·.1)) := fun x => by
        obtain ⟨x1, x2⟩ := x
        rw [List.mem_append, hQm]
        simp only [List.map_append, List.mem_append, List.map_cons, List.map_nil, List.mem_singleton, Prod.mk.injEq]
        constructor
        · rintro ((h | ⟨h1, h2⟩) | ⟨h1, h2⟩)
          · exact .inl h
          · exact .inr ⟨h1, .inl h2⟩
          · exact .inr ⟨h1, .inr h2⟩
        · rintro (h | ⟨h1, h2 | h2⟩)
          · exact .inl (.inl h)
          · exact .inl (.inr ⟨h1, h2⟩)
          · exact .inr ⟨h1, h2⟩
      refine G.mapEntry it2 w1 esw clw D2 e2 (by kernel_rfl) (upd_same _ _ _) (.inl (lei _ _ e1)) hsw he2 ?_
      rw [hek2, hev2]
      refine G.call0 _ _ (by kernel_rfl) Tryz.call94 (fracMul0 (hx.mono lei) (hy.mono lei) (SB.big (ok.a.s p)) (SB.big (ok.b.s k))) ?_
      intro v9 u9 l9 r9
      obtain ⟨b9, a9, n9, c9, b9', a9', n9', c9', rfl⟩ := r9.opn
      rw [← hbase] at hacc
      have ok : MulOK' F H base := ⟨ok.a, ok.b, ok.pr, ok.con, hacc⟩
      by_cases hpk : p = k
      · have hcon : con F H (p, k) = F.s p * H.s k + F.s p * H.s k := by unfold con; rw [if_pos hpk]
        refine G.eqAgg 43 #[.int .i64 p.1, .string (mkS p.2)] #[.int .i64 k.1, .string (mkS k.2)] true (by kernel_rfl) (by kernel_rfl) (by kernel_rfl) (fun w => by rw [← decide_eq_true hpk]; exact keyPar.eq p k w) ?_
        refine G.call0 _ _ (by kernel_rfl) Tryz.call95 (fracAdd0 r9 r9 (SB.big (ok.pr p k)) (SB.big (ok.pr p k))) ?_
        intro v10 u10 l10 r10
        obtain ⟨b10, a10, n10, c10, b10', a10', n10', c10', rfl⟩ := r10.opn
        refine G.fieldA 92 bx 0 2 5 (by kernel_rfl) (by kernel_rfl) ?_
        refine G.loadM none bx (0 + 5) (.map (some g2)) (by kernel_rfl) (by kernel_rfl) (valC_5 (by rw [upd_ne _ _ jb]; exact ibx)) ?_
        refine G.call0 _ _ (by kernel_rfl) Tryz.call97 (pair0 p k) ?_
        rintro v7 u7 l7 rfl
        refine G.callG _ _ (by kernel_rfl) (by kernel_rfl) Tryz.call96 (g := g2) (o := oi) (by rw [upd_ne _ _ j2]; exact ig2)
          (notePr0 (a := pairP p k) (iR.mf ((l9.trans l10).trans l7)) (r10.mono l7) (by have := ok.con (p, k); rw [hcon] at this; exact this) (ok.acc Qs hQn _) (by
            have := ok.acc (Qs ++ [(p, k)]) hQn' (pairP p k)
            rw [cross_snoc, if_pos rfl, hcon] at this
            rw [show (F.s p * H.s k + F.s p * H.s k) + (base (pairP p k) + crossL F H Qs (pairP p k)) = base (pairP p k) + ((F.s p * H.s k + F.s p * H.s k) + crossL F H Qs (pairP p k)) by grind]; exact this)) ?_
        intro v8 u8 o8 l8 r8
        refine G.back (by kernel_rfl) (iJ (D2 ++ [e2], L2 ++ [(k, _)]) _ _ _ ⟨by kernel_rfl, by kernel_rfl, by kernel_rfl⟩ ((ile.trans ((l9.trans l10).trans l7)).trans l8)
          ⟨iS', by rw [upd_ne _ _ (Ne.symm j2), upd_same], by rw [upd_ne _ _ (Ne.symm k2), upd_ne _ _ k1]; exact iit, by rw [upd_ne _ _ ne2, upd_ne _ _ jb]; exact ibx, by rw [upd_ne _ _ ne3, upd_ne _ _ j1]; exact ig1, Qs ++ [(p, k)], hQn', hQm', o8, upd_same _ _ _, ?_⟩ (by have := iS'.len; simp at this; dsimp only; simp; omega))
        refine (r8.congr fun j => ?_).up (by simp [Nat.add_assoc]) (Nat.le_refl _)
        rw [cross_snoc, hcon]
        unfold setF
        by_cases e : j = pairP p k
        · rw [if_pos e, if_pos e, e]; grind
        · rw [if_neg e, if_neg e]
      · have hcon : con F H (p, k) = F.s p * H.s k := by unfold con; rw [if_neg hpk]
        refine G.eqAgg 43 #[.int .i64 p.1, .string (mkS p.2)] #[.int .i64 k.1, .string (mkS k.2)] false (by kernel_rfl) (by kernel_rfl) (by kernel_rfl) (fun w => by rw [← decide_eq_false hpk]; exact keyPar.eq p k w) ?_
        refine G.fieldA 92 bx 0 2 5 (by kernel_rfl) (by kernel_rfl) ?_
        refine G.loadM none bx (0 + 5) (.map (some g2)) (by kernel_rfl) (by kernel_rfl) (valC_5 (by rw [upd_ne _ _ jb]; exact ibx)) ?_
        refine G.call0 _ _ (by kernel_rfl) Tryz.call97 (pair0 p k) ?_
        rintro v7 u7 l7 rfl
        refine G.callG _ _ (by kernel_rfl) (by kernel_rfl) Tryz.call96 (g := g2) (o := oi) (by rw [upd_ne _ _ j2]; exact ig2)
          (notePr0 (a := pairP p k) (iR.mf (l9.trans l7)) (r9.mono l7) (by have := ok.con (p, k); rw [hcon] at this; exact this) (ok.acc Qs hQn _) (by
            have := ok.acc (Qs ++ [(p, k)]) hQn' (pairP p k)
            rw [cross_snoc, if_pos rfl, hcon] at this
            rw [show F.s p * H.s k + (base (pairP p k) + crossL F H Qs (pairP p k)) = base (pairP p k) + (F.s p * H.s k + crossL F H Qs (pairP p k)) by grind]; exact this)) ?_
        intro v8 u8 o8 l8 r8
        refine G.back (by kernel_rfl) (iJ (D2 ++ [e2], L2 ++ [(k, _)]) _ _ _ ⟨by kernel_rfl, by kernel_rfl, by kernel_rfl⟩ ((ile.trans (l9.trans l7)).trans l8)
          ⟨iS', by rw [upd_ne _ _ (Ne.symm j2), upd_same], by rw [upd_ne _ _ (Ne.symm k2), upd_ne _ _ k1]; exact iit, by rw [upd_ne _ _ ne2, upd_ne _ _ jb]; exact ibx, by rw [upd_ne _ _ ne3, upd_ne _ _ j1]; exact ig1, Qs ++ [(p, k)], hQn', hQm', o8, upd_same _ _ _, ?_⟩ (by have := iS'.len; simp at this; dsimp only; simp; omega))
        refine (r8.congr fun j => ?_).up (by simp [Nat.add_assoc]) (Nat.le_refl _)
        rw [cross_snoc, hcon]
        unfold setF
        by_cases e : j = pairP p k
        · rw [if_pos e, if_pos e, e]; grind
        · rw [if_neg e, if_neg e]
    case done2 =>
    intro hall2
    refine G.back (by kernel_rfl) (hJ (D ++ [e], L ++ [(p, _)]) _ _ _ ⟨by kernel_rfl, by kernel_rfl, by kernel_rfl⟩ (l6.trans ile) ⟨hS', iit, ibx, ig1, Qs, hQn, fun x => ?_, oi, ig2, iR.up ?_ (Nat.le_refl _)⟩ (by have := hS'.len; simp at this; dsimp only; simp; omega))
    · rw [hQm]
      simp only [List.map_append, List.mem_append, List.map_cons, List.map_nil, List.mem_singleton]
      constructor
      · rintro (h | ⟨h1, h2⟩)
        · exact ⟨.inl h.1, h.2⟩
        · obtain ⟨y, hy, e'⟩ := List.mem_map.1 h2
          exact ⟨.inr h1, List.mem_map.2 ⟨y, iS.sub y hy, e'⟩⟩
      · rintro ⟨h1 | h1, h2⟩
        · exact .inl ⟨h1, h2⟩
        · obtain ⟨y, hy, e'⟩ := List.mem_map.1 h2
          exact .inr ⟨h1, List.mem_map.2 ⟨y, hall2 y hy, e'⟩⟩
    · have := iS.len
      simp only [List.length_append, List.length_cons, List.length_nil, Nat.add_mul]
      omega
  case done1 =>
  intro hall
  refine G.loadM (some 6) bx 0 (.agg #[.bool b2, .slice a2 x2 c2, .bool b2', .slice a2' x2' c2', .map (some g1), .map (some g2)]) (by kernel_rfl) (by kernel_rfl) (valC_all hbx) ?_
  refine G.drop ((PH.mt.upd g1 o1).upd g2 o2') (by kernel_rfl) (fun g o hg => ?_) ?_
  · by_cases e : g = g2
    · subst e; rw [upd_same] at hg; cases hg; exact hg2
    · rw [upd_ne _ _ e] at hg
      by_cases e : g = g1
      · subst e; rw [upd_same] at hg; cases hg; exact hm1g
      · rw [upd_ne _ _ e] at hg; cases hg
  refine G.ret (.agg #[.bool b2, .slice a2 x2 c2, .bool b2', .slice a2' x2' c2', .map (some g1), .map (some g2)]) (by kernel_rfl) ⟨b2, a2, x2, c2, b2', a2', x2', c2', g1, g2, o1, o2', rfl, r5.mono l6, ne3, rfl, (hS1.mf (l5.trans l6)).up (by omega) (Nat.le_refl _), (hR.congr fun k => ?_).up ?_ (Nat.le_refl _)⟩
  · rw [cross_all F H hPn (fun p q h1 h2 => (hPm _).2 ⟨?_, ?_⟩) k, hbase]
    · rfl
    · have : p ∈ lv.map (·.1) := Classical.byContradiction fun h => h1 (hzv p h)
      obtain ⟨y, hy, e'⟩ := List.mem_map.1 this
      exact List.mem_map.2 ⟨y, hall y hy, e'⟩
    · exact Classical.byContradiction fun h => h2 (hzw q h)
  · have h1 := hS.len
    have h2 : L.length * lw.length ≤ N * M := Nat.mul_le_mul (by omega) hnw
    omega
end Go.Proofs.YtikfmknnbjocmaaGreatDoor
end
