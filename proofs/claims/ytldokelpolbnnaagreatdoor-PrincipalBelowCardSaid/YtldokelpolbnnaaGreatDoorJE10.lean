/- Joined out of parts of one proof by a program: contracts of the functions that the statement reaches, and the plain facts behind them. -/
import Derived.Test.YtldokelpolbnnaaGreatDoorJE09
set_option linter.unusedVariables false
set_option linter.unusedSimpArgs false
set_option linter.unusedSectionVars false
section
set_option linter.unusedSectionVars false
set_option linter.unusedVariables false
namespace Go.Proofs.YtldokelpolbnnaaGreatDoor
open Go.RowKit
theorem or_mt (m : PH) : m.or PH.mt = m := by
 funext g; unfold PH.or; split
 ·rename_i o e; rw [e]
 ·rename_i e; rw [e]; rfl
theorem or_upd (m0 m : PH) {g : Nat} (o : Obj) (h : m0 g = none) : m0.or (m.upd g o) = (m0.or m).upd g o := by
 funext k
 by_cases e : k = g
 ·subst e; rw [PH.or_r h, upd_same, upd_same]
 ·rw [upd_ne _ _ e]
  unfold PH.or; split
  ·rfl
  ·rw [upd_ne _ _ e]
theorem ArrAt.list {m0 m u : PH} {v : Value} {t : TypeId} {sz : Nat} {es : List Value} (h : ArrAt m0 m v t sz es) (hl : PH.le m u) : ListP u v sz es := by
 obtain ⟨ho, h⟩ := h
 rcases h with ⟨rfl, rfl, _⟩ | ⟨g, cap, rest, _, rfl, rfl, hcap, hlen, _⟩
 ·exact ListP.nil _ _ _ _
 ·refine ⟨_, _, rfl, hcap, fun j e hj => ⟨g, 0, rfl, fun i x hx => ⟨_, _, _, hl _ _ (upd_same _ _ _), ?_⟩⟩⟩
  rw [List.getElem?_toArray, Nat.zero_add]
  have := flat_get ho hj hx
  rw [List.getElem?_append_left (by obtain ⟨h, _⟩ := List.getElem?_eq_some_iff.1 this; exact h)]; exact this
theorem Bag.list {l : List Arr} {m u : PH} (h : Bag m l) (hl : PH.le m u) (i : Nat) {x : Arr} (hi : l[i]? = some x) : ListP u x.v x.sz x.es := by
 obtain ⟨m0, hx, _⟩ := h.focus i hi
 exact ArrAt.list hx hl
section rules
variable {P : Program} [Mixed P] {fn : Func} {Post : Spec} {st : List KI × S} {u m : PH}
theorem G.callA (f : Nat) (args : List Value) {mf mc : PH} {R : Value → PH → PH → Prop} (h : stopV P (adv P st) = .call f args) (hdr : noDr (adv P st) = true) (hc : ∀ args w, (callFunc f args).run P w = .ok (.enter f args) w) (hm : m = mf.or mc) (hd : Apart mf mc) (c : Contract P f args u mc R)
  (k : ∀ v u' mc', PH.le u u' → R v u' mc' → Apart mf mc' → G P fn Post (nx (adv P st) v) u' (mf.or mc')) : G P fn Post st u m := by
 subst hm
 refine G.bigN (K := fun v u' m' => ∃ mc', m' = mf.or mc' ∧ R v u' mc' ∧ Apart mf mc') h (by simp) hdr view_call_free (fun env o hview w hgd => ?_) (fun v u' m' h1 h2 => ?_)
 ·have hgc : Good u mc w := hgd.less (fun g o hg => by
   cases hx : mf g with
   | some o' => have := (hd g).resolve_left (by rw [hx]; simp); rw [this] at hg; cases hg
   | none => rw [PH.or_r hx]; exact hg)
  refine does_call hview hc w _ (Calls.mono (c w hgc) fun e w' he => ?_)
  obtain ⟨v, u', mc', e1, e2, e3, e4⟩ := he
  obtain ⟨g1, g2⟩ := hgd.frameM hd e2 e3
  refine ⟨v, e1, u', mf.or mc', g1, g2, mc', rfl, e4, fun g => ?_⟩
  cases hx : mf g with
  | none => exact .inl rfl
  | some o =>
   right
   have hlt := lt_of_at (hgd.pm g o (PH.or_l hx))
   exact e3.ms g hlt ((hd g).resolve_left (by rw [hx]; simp))
 ·obtain ⟨mc', rfl, hR, hA⟩ := h2
  exact k v u' mc' h1 hR hA
theorem G.giveP {ma sm : PH} (h : noReg (ctl P 100 st).1 = true) (hm : m = ma.or sm) (ha : Apart ma sm) (h0 : ∀ g, Post.m0 g = none ∨ sm g ≠ none) (k : ∀ u', PH.le u u' → PH.le ma u' → G P fn Post (ctl P 100 st) u' sm) : G P fn Post st u m := by
 subst hm
 refine ⟨ctl_sound 100 st ?_⟩
 rw [Sym.ofNo h]
 intro c ρ a w hm0 hr
 have hap : ∀ g o, ma g = some o → u g = none := fun g o hg => (hr.gd.ap g).resolve_right (by rw [PH.or_l hg]; simp)
 have hsm : ∀ g o, sm g = some o → ma g = none := fun g o hg => (ha g).resolve_right (by rw [hg]; simp)
 have hnew : ∀ g o, ma g = some o → c.w0.heap.size ≤ g := by
  intro g o hg
  rcases Nat.lt_or_ge g c.w0.heap.size with hlt | hge
  ·have hpm : c.m0 g = none := by
    rw [hm0]
    rcases h0 g with e | e
    ·exact e
    ·cases hs : sm g with
     | none => exact absurd hs e
     | some o' => have := hsm g o' hs; rw [this] at hg; cases hg
   have := hr.gr.ms g hlt hpm
   rw [PH.or_l hg] at this; cases this
  ·exact hge
 have hle : PH.le u (ma.or u) := fun g o hg => by
  cases hx : ma g with
  | none => rw [PH.or_r hx]; exact hg
  | some o' => have := hap g o' hx; rw [this] at hg; cases hg
 have hk := (k (ma.or u) hle (fun g o hg => PH.or_l hg)).out
 rw [Sym.ofNo h] at hk
 refine hk c ρ a w hm0 ⟨hr.sz, hr.tm, hr.df, fun kk b hb => ?_, hr.inj, hr.lv, ⟨fun g' o hg => ?_, fun g' o hg => ?_, fun g' => ?_, fun g' cs t' fr j z hg hj => ?_⟩, ⟨hr.gr.sz, hr.gr.old, fun g' hg => ?_, fun g' hg hm => ?_, hr.gr.io⟩⟩
 ·obtain ⟨e1, e2, e3, e4⟩ := hr.box kk b hb
  have hma : ma (ρ kk) = none := by
   cases hx : ma (ρ kk) with
   | none => rfl
   | some o => rw [PH.or_l hx] at e4; cases e4
  rw [PH.or_r hma] at e4
  exact ⟨e1, e2, by rw [PH.or_r hma]; exact e3, e4⟩
 ·cases hx : ma g' with
  | some o' => rw [PH.or_l hx] at hg; cases hg; exact hr.gd.pm g' _ (PH.or_l hx)
  | none => rw [PH.or_r hx] at hg; exact hr.gd.pu g' o hg
 ·exact hr.gd.pm g' o (by rw [PH.or_r (hsm g' o hg)]; exact hg)
 ·cases hx : ma g' with
  | some o' => right; exact (ha g').resolve_left (by rw [hx]; simp)
  | none =>
   rw [PH.or_r hx]
   have := hr.gd.ap g'
   rw [PH.or_r hx] at this; exact this
 ·cases hx : ma g' with
  | some o' =>
   rw [PH.or_l hx, ← hg]
   exact (hr.gd.pm g' _ (PH.or_l hx)).symm
  | none => rw [PH.or_r hx]; exact hr.gd.cl g' cs t' fr j z hg hj
 ·have hx : ma g' = none := by
   cases hx : ma g' with
   | none => rfl
   | some o => have := hnew g' o hx; omega
  rw [PH.or_r hx]; exact hr.gr.us g' hg
 ·have := hr.gr.ms g' hg hm
  cases hx : ma g' with
  | some o => have := hnew g' o hx; omega
  | none => rw [PH.or_r hx] at this; exact this
end rules
structure Src where
 g : Nat
 a : Option Addr
 n : Nat
 c : Nat
def Src.ptr (s : Src) : Value := .pointer (some ⟨s.g, 0, none⟩)
def Src.el (s : Src) (k : Nat) : Value := .agg #[.slice s.a s.n s.c, .int .i64 (k : Int)]
def Src.M (s : Src) (k : Nat) : PH := PH.mt.upd s.g (.cells #[.slice s.a s.n s.c, .int .i64 (k : Int)] 70 (0, 0))
def Src.arr (s : Src) (k : Nat) : Arr := ⟨.slice (some ⟨s.g, 0, none⟩) 1 1, 70, 2, [s.el k]⟩
theorem Src.el_ok (s : Src) (k : Nat) : ElsOK 2 [s.el k] := by
 intro x hx
 simp at hx; subst hx
 exact ⟨rfl, fun y hy => by simp [Src.el, Value.cells] at hy; rcases hy with rfl | rfl <;> rfl⟩
theorem Src.at {s : Src} {k : Nat} {m0 : PH} (h : m0 s.g = none) : (s.arr k).At m0 (m0.or (s.M k)) := by
 refine ⟨s.el_ok k, .inr ⟨s.g, 1, [], h, ?_, rfl, Nat.le_refl _, rfl, by simp⟩⟩
 unfold Src.M
 rw [or_upd _ _ _ h, or_mt]; rfl
theorem Src.split {s : Src} {k : Nat} {m0 m : PH} (h : (s.arr k).At m0 m) : m = m0.or (s.M k) ∧ m0 s.g = none := by
 obtain ⟨_, h⟩ := h
 rcases h with ⟨h, _, _⟩ | ⟨g, cap, rest, h1, rfl, h2, h3, h4, h5⟩
 ·simp [Src.arr] at h
 ·simp only [Src.arr, Value.slice.injEq, Option.some.injEq, Addr.mk.injEq, and_true] at h2
  obtain ⟨rfl, _, rfl⟩ := h2
  have hr : rest = [] := by
   simp [Src.arr, flat, Src.el, Value.cells] at h4
   exact h4
  subst hr
  refine ⟨?_, h1⟩
  unfold Src.M
  rw [or_upd _ _ _ h1, or_mt]; rfl
theorem Src.apart {s : Src} {k : Nat} {m0 : PH} (h : m0 s.g = none) : Apart m0 (s.M k) := fun g => by
 by_cases e : g = s.g
 ·subst e; exact .inl h
 ·right; unfold Src.M; rw [upd_ne _ _ e]; rfl
structure SrcOK (u : PH) (s : Src) (ts : List Int) : Prop where
 list : ListP u (.slice s.a s.n s.c) 1 (intsZ ts)
 n : s.n = ts.length
 le : ts.length ≤ 600
 lo : ∀ t ∈ ts, -9223372036854775808 ≤ t
 hi : ∀ t ∈ ts, t ≤ 9223372036854775807
theorem SrcOK.mono {u u' : PH} {s : Src} {ts : List Int} (h : SrcOK u s ts) (hl : PH.le u u') : SrcOK u' s ts := ⟨h.list.mono hl, h.n, h.le, h.lo, h.hi⟩
theorem Src.cell0 (s : Src) (k : Nat) : ElP (s.M k) s.g (0 + 0) (.slice s.a s.n s.c) := fun i y hy => by
 match i, hy with
 | 0, hy => simp [Value.cells] at hy; subst hy; exact ⟨_, _, _, upd_same _ _ _, rfl⟩
theorem Src.cell1 (s : Src) (k : Nat) : ElP (s.M k) s.g (0 + 1) (.int .i64 (k : Int)) := fun i y hy => by
 match i, hy with
 | 0, hy => simp [Value.cells] at hy; subst hy; exact ⟨_, _, _, upd_same _ _ _, rfl⟩
end Go.Proofs.YtldokelpolbnnaaGreatDoor
end
section
set_option linter.unusedSectionVars false
set_option linter.unusedVariables false
namespace Go.Proofs.YtldokelpolbnnaaGreatDoor
open Go.RowKit
theorem mod0 {u : PH} {x : Int} {n : Nat} (h1 : -9223372036854775808 ≤ x) (h2 : x ≤ 9223372036854775807) (hn : 0 < n) (hn2 : n ≤ 1000000) :
  Fn0 Tryz.prog 36 [.int .i64 x, .int .i64 (n : Int)] u fun v _ => ∃ r : Nat, v = .int .i64 (r : Int) ∧ r < n := by
 refine Fn0.of Tryz.func36 (by kernel_rfl) (by kernel_rfl) ?_
 refine G.lssF (n : Int) 1 (by kernel_rfl) (by omega) ?_
 have a1 := Int.tmod_lt_of_pos x (show (0 : Int) < n by omega)
 have a2 := Int.lt_tmod_of_pos x (show (0 : Int) < n by omega)
 refine G.remZ x (n : Int) (x.tmod n) (by kernel_rfl) (by omega) (by omega) rfl ?_
 refine G.add (x.tmod n) (n : Int) (x.tmod n + n) (by kernel_rfl) rfl (by omega) (by omega) ?_
 obtain ⟨y, hy⟩ : ∃ y : Nat, x.tmod n + n = (y : Int) := ⟨(x.tmod n + n).toNat, by omega⟩
 refine G.remZ (x.tmod n + n) (n : Int) ((y % n : Nat) : Int) (by kernel_rfl) (by omega) (by omega) (by rw [hy, Int.tmod_eq_emod_of_nonneg (by omega)]; rfl) ?_
 exact G.ret _ (by kernel_rfl) ⟨rfl, y % n, rfl, Nat.mod_lt _ hn⟩
def Drawn (s : Src) (n : Nat) (v : Value) (m' : PH) : Prop := ∃ r k : Nat, v = .int .i64 (r : Int) ∧ r < n ∧ k ≤ s.n ∧ m' = s.M k
set_option maxHeartbeats 1000000 in
theorem srcN0 {u : PH} {s : Src} {ts : List Int} {k n : Nat} (h : SrcOK u s ts) (hk : k ≤ s.n) (hn : 0 < n) (hn2 : n ≤ 1000000) :
  Contract Tryz.prog 10 [s.ptr, .int .i64 (n : Int)] u (s.M k) fun v _ m' => Drawn s n v m' := by
 have hsn := h.n
 have hle := h.le
 refine Contract.of Tryz.func10 (by kernel_rfl) (by kernel_rfl) ?_
 refine G.fieldA 70 s.g 0 1 1 (by kernel_rfl) (by kernel_rfl) ?_
 refine G.loadM none s.g (0 + 1) (.int .i64 (k : Int)) (by kernel_rfl) (by kernel_rfl) (s.cell1 k) ?_
 refine G.fieldA 70 s.g 0 0 0 (by kernel_rfl) (by kernel_rfl) ?_
 refine G.loadM none s.g (0 + 0) (.slice s.a s.n s.c) (by kernel_rfl) (by kernel_rfl) (s.cell0 k) ?_
 by_cases hlt : k < s.n
 ·refine G.geqF (k : Int) (s.n : Int) (by kernel_rfl) (by omega) ?_
  refine G.fieldA 70 s.g 0 1 1 (by kernel_rfl) (by kernel_rfl) ?_
  refine G.loadM none s.g (0 + 1) (.int .i64 (k : Int)) (by kernel_rfl) (by kernel_rfl) (s.cell1 k) ?_
  refine G.add (k : Int) 1 ((k + 1 : Nat) : Int) (by kernel_rfl) (by omega) (by omega) (by omega) ?_
  refine G.fieldA 70 s.g 0 1 1 (by kernel_rfl) (by kernel_rfl) ?_
  refine G.storeM 1 s.g (0 + 1) 70 [.slice s.a s.n s.c, .int .i64 (k : Int)] (.int .i64 ((k + 1 : Nat) : Int)) (by kernel_rfl) (upd_same _ _ _) (fun x hx => by simp at hx; rcases hx with rfl | rfl <;> rfl) (by simp) rfl rfl ?_
  have e : (s.M k).upd s.g (.cells (([Value.slice s.a s.n s.c, .int .i64 (k : Int)].take (0 + 1)) ++ (Value.int .i64 ((k + 1 : Nat) : Int)).cells.toList ++ ([Value.slice s.a s.n s.c, .int .i64 (k : Int)].drop (0 + 1 + 1))).toArray 70 (0, 0)) = s.M (k + 1) := by
   unfold Src.M; rw [upd_upd]; rfl
  rw [e]
  refine G.fieldA 70 s.g 0 0 0 (by kernel_rfl) (by kernel_rfl) ?_
  refine G.loadM none s.g (0 + 0) (.slice s.a s.n s.c) (by kernel_rfl) (by kernel_rfl) (s.cell0 (k + 1)) ?_
  refine G.fieldA 70 s.g 0 1 1 (by kernel_rfl) (by kernel_rfl) ?_
  refine G.loadM none s.g (0 + 1) (.int .i64 ((k + 1 : Nat) : Int)) (by kernel_rfl) (by kernel_rfl) (s.cell1 (k + 1)) ?_
  refine G.sub ((k + 1 : Nat) : Int) 1 (k : Int) (by kernel_rfl) (by omega) (by omega) (by omega) ?_
  have hkt : k < ts.length := by omega
  obtain ⟨b, off, ea, eb⟩ := ListP.at' h.list (j := k) (e := .int .i64 ts[k]) (by simp [intsZ, List.getElem?_eq_getElem hkt])
  obtain ⟨g, a, n', c⟩ := s
  simp only at ea hlt hk hsn
  subst ea
  refine G.addr b off n' c k 1 (by kernel_rfl) hlt ?_
  refine G.loadU none b (off + k * 1) (.int .i64 ts[k]) (by kernel_rfl) (by kernel_rfl) eb ?_
  refine G.call0 _ _ (by kernel_rfl) Tryz.call36 (mod0 (h.lo _ (List.getElem_mem hkt)) (h.hi _ (List.getElem_mem hkt)) hn hn2) ?_
  rintro v1 u1 l1 ⟨r, rfl, hr⟩
  exact G.ret _ (by kernel_rfl) ⟨r, k + 1, rfl, hr, by dsimp only; omega, rfl⟩
 ·refine G.geqT (k : Int) (s.n : Int) (by kernel_rfl) (by omega) ?_
  exact G.ret (.int .i64 0) (by kernel_rfl) ⟨0, k, rfl, hn, hk, rfl⟩
theorem srcRange0 {u : PH} {s : Src} {ts : List Int} {k : Nat} {lo hi : Int} {n : Nat} (h : SrcOK u s ts) (hk : k ≤ s.n) (hlo : -1000000 ≤ lo) (hlo2 : lo ≤ 1000000) (hn : hi - lo + 1 = (n : Int)) (hn0 : 0 < n) (hn2 : n ≤ 1000000) :
  Contract Tryz.prog 39 [s.ptr, .int .i64 lo, .int .i64 hi] u (s.M k) fun v _ m' => ∃ (r : Nat) (k' : Nat), v = .int .i64 (lo + (r : Int)) ∧ r < n ∧ k' ≤ s.n ∧ m' = s.M k' := by
 refine Contract.of Tryz.func39 (by kernel_rfl) (by kernel_rfl) ?_
 refine G.sub hi lo (hi - lo) (by kernel_rfl) rfl (by omega) (by omega) ?_
 refine G.add (hi - lo) 1 (n : Int) (by kernel_rfl) hn (by omega) (by omega) ?_
 refine G.callA _ _ (by kernel_rfl) (by kernel_rfl) Tryz.call10 (mt_or _).symm (apart_mt _) (srcN0 h hk hn0 hn2) ?_
 rintro v1 u1 m1 l1 ⟨r, k', rfl, hr, hk', rfl⟩ _
 rw [mt_or]
 refine G.add lo (r : Int) (lo + (r : Int)) (by kernel_rfl) rfl (by omega) (by omega) ?_
 exact G.ret _ (by kernel_rfl) ⟨r, k', rfl, hr, hk', rfl⟩
theorem srcPick0 {u : PH} {s : Src} {ts : List Int} {k : Nat} {v : Value} {L : List Int} (h : SrcOK u s ts) (hk : k ≤ s.n) (hL : ListP u v 1 (intsZ L)) (hn0 : 0 < L.length) (hn2 : L.length ≤ 1000000) :
  Contract Tryz.prog 40 [s.ptr, v] u (s.M k) fun v _ m' => ∃ z ∈ L, ∃ k' : Nat, v = .int .i64 z ∧ k' ≤ s.n ∧ m' = s.M k' := by
 obtain ⟨a, c, rfl⟩ := hL.opn
 rw [intsZ_length] at hL ⊢
 refine Contract.of Tryz.func40 (by kernel_rfl) (by kernel_rfl) ?_
 refine G.callA _ _ (by kernel_rfl) (by kernel_rfl) Tryz.call10 (mt_or _).symm (apart_mt _) (srcN0 h hk hn0 hn2) ?_
 rintro v1 u1 m1 l1 ⟨r, k', rfl, hr, hk', rfl⟩ _
 rw [mt_or]
 obtain ⟨b, off, rfl, e⟩ := ListP.at' (hL.mono l1) (j := r) (e := .int .i64 L[r]) (by simp [intsZ, List.getElem?_eq_getElem hr])
 refine G.addr b off L.length c r 1 (by kernel_rfl) hr ?_
 refine G.loadU none b (off + r * 1) (.int .i64 L[r]) (by kernel_rfl) (by kernel_rfl) e ?_
 exact G.ret _ (by kernel_rfl) ⟨L[r], List.getElem_mem hr, k', rfl, hk', rfl⟩
structure SmR (q : Rat) : Prop where
 num : q.num.natAbs ≤ 9
 den : q.den ∣ 12
theorem SmR.le {q : Rat} (h : SmR q) : q.den ≤ 12 := Nat.le_of_dvd (by omega) h.den
theorem SmR.tx {q : Rat} (h : SmR q) : Tx q := ⟨Nat.le_trans (dig_of_lt (k := 2) (by omega) (by have := h.num; omega)) (by omega), Nat.le_trans (dig_of_lt (k := 2) (by omega) (by have := h.le; omega)) (by omega)⟩
theorem SmR.sz {q : Rat} (h : SmR q) : Sz q 1 := ⟨nl_le_of_lt (by have := h.num; omega), nl_le_of_lt (by have := h.le; omega)⟩
theorem smR_all : ∀ r : Fin 19, ∀ d : Fin 5, d.val ≠ 0 → ((Rat.divInt ((r.val : Int) - 9) (d.val : Int)).num.natAbs ≤ 9 ∧ (Rat.divInt ((r.val : Int) - 9) (d.val : Int)).den ∣ 12) := by decide
theorem smR_of {r : Nat} (hr : r < 19) {d : Int} (hd : d ∈ [1, 1, 1, 2, 3, (4 : Int)]) : SmR (Rat.divInt (-9 + (r : Int)) d) ∧ d ≠ 0 ∧ 0 < d ∧ d ≤ 4 := by
 have : ∃ d' : Fin 5, d'.val ≠ 0 ∧ d = (d'.val : Int) := by
  simp at hd
  rcases hd with rfl | rfl | rfl | rfl
  ·exact ⟨1, by decide, rfl⟩
  ·exact ⟨2, by decide, rfl⟩
  ·exact ⟨3, by decide, rfl⟩
  ·exact ⟨4, by decide, rfl⟩
 obtain ⟨d', h1, rfl⟩ := this
 have h2 := smR_all ⟨r, hr⟩ d' h1
 have e : (-9 + (r : Int)) = (r : Int) - 9 := by omega
 rw [e]
 exact ⟨⟨h2.1, h2.2⟩, by omega, by omega, by have := d'.isLt; omega⟩
set_option maxHeartbeats 1000000 in
theorem srcRat0 {u : PH} {s : Src} {ts : List Int} {k : Nat} (h : SrcOK u s ts) (hk : k ≤ s.n) :
  Contract Tryz.prog 13 [s.ptr] u (s.M k) fun v _ m' => ∃ (q : Rat) (k' : Nat), v = .string (mkS (ratT q)) ∧ SmR q ∧ k' ≤ s.n ∧ m' = s.M k' := by
 refine Contract.of Tryz.func13 (by kernel_rfl) (by kernel_rfl) ?_
 refine G.callA _ _ (by kernel_rfl) (by kernel_rfl) Tryz.call39 (mt_or _).symm (apart_mt _) (srcRange0 (lo := -9) (hi := 9) (n := 19) h hk (by omega) (by omega) (by omega) (by omega) (by omega)) ?_
 rintro v1 u1 m1 l1 ⟨r, k1, rfl, hr, hk1, rfl⟩ _
 rw [mt_or]
 refine G.call0 _ _ (by kernel_rfl) Tryz.call38 (bigOf0 (n := -9 + (r : Int)) (by omega) (by omega)) ?_
 intro v2 u2 l2 k2
 obtain ⟨b2, a2, n2, c2, rfl, _, _⟩ := k2.opn
 refine G.buildU 3 1 8 (.int .i64 0) (intsZ [1, 1, 1, 2, 3, 4]) (by kernel_rfl) (intsZ_ok _) rfl (by omega) (by simp [intsZ]) (by simp [intsZ]) ?_
 intro g3 u3 l3 e3
 have hLP : ListP u3 (.slice (some ⟨g3, 0, none⟩) 6 6) 1 (intsZ [1, 1, 1, 2, 3, 4]) := ⟨_, 6, rfl, Nat.le_refl _, fun j e hj => ⟨g3, 0, rfl, e3 j e hj⟩⟩
 refine G.callA _ _ (by kernel_rfl) (by kernel_rfl) Tryz.call40 (mt_or _).symm (apart_mt _) (srcPick0 (h.mono ((l1.trans l2).trans l3)) hk1 hLP (by simp) (by simp)) ?_
 rintro v4 u4 m4 l4 ⟨d, hd, k4, rfl, hk4, rfl⟩ _
 rw [mt_or]
 obtain ⟨hq, hd0, hd1, hd4⟩ := smR_of hr hd
 refine G.call0 _ _ (by kernel_rfl) Tryz.call38 (bigOf0 (n := d) (by omega) (by omega)) ?_
 intro v5 u5 l5 k5
 obtain ⟨b5, a5, n5, c5, rfl, _, _⟩ := k5.opn
 refine G.call0 _ _ (by kernel_rfl) Tryz.call37 (refNew0 (k2.mono ((l3.trans l4).trans l5)) k5 (nl_i64 (by omega) (by omega)) (nl_i64 (by omega) (by omega)) hd0) ?_
 intro v6 u6 l6 k6
 obtain ⟨b6, a6, n6, c6, a6', n6', c6', rfl, _⟩ := k6.opn
 refine G.call0 _ _ (by kernel_rfl) Tryz.call41 (refGive0 k6 hq.tx) ?_
 rintro v7 u7 l7 rfl
 exact G.ret _ (by kernel_rfl) ⟨_, k4, rfl, hq, hk4, rfl⟩
end Go.Proofs.YtldokelpolbnnaaGreatDoor
end
section
set_option linter.unusedSectionVars false
set_option linter.unusedVariables false
namespace Go.Proofs.YtldokelpolbnnaaGreatDoor
open Go.RowKit
section rules
variable {P : Program} [Mixed P] {fn : Func} {Post : Spec} {st : List KI × S} {u m : PH}
theorem G.appendM (e : TypeId) (sz bt : Nat) (z : Value) (m0 : PH) (es xs : List Value) (v : Value) (b off n c : Nat) (h : stopV P (adv P st) = .app (some (e, sz, bt, z)) true [v, .slice (some ⟨b, off, none⟩) n c]) (hz : z.cells.toList.all cellOK = true) (hzs : z.cells.size = sz) (hsz : 0 < sz)
  (ha : ArrAt m0 m v e sz es) (hx : ElsP m b off sz xs) (ho : ElsOK sz xs) (hn : xs.length = n) (hn0 : 0 < n) (hb : (es.length + n) * bt ≤ 140737488355328) (hb2 : es.length + n ≤ 9223372036854775807)
  (k : ∀ v' m', ArrAt m0 m' v' e sz (es ++ xs) → G P fn Post (nx (adv P st) v') u m') : G P fn Post st u m := by
 refine G.big (K := fun v' u' m' => u' = u ∧ ArrAt m0 m' v' e sz (es ++ xs)) h (by simp) (fun env op hv => (view_app (P := P) (o := ⟨none, op, 0, "", #[], none⟩) hv).2.1) (.inr fun env op hv => (view_app (P := P) (o := ⟨none, op, 0, "", #[], none⟩) hv).1) (fun env o hview w hgd => ?_) (fun v' u' m' _ hk => ?_)
 ·obtain ⟨_, _, t, hi, hex⟩ := view_app (P := P) hview
  obtain ⟨v', w', m', h1, h2, h3, h4⟩ := append_world (P := P) m0 es xs v b off n c o.type hi hz hzs hsz ha ho hn hn0 hb hb2 hgd (hx.cells hsz ho hgd.pm)
  refine does_value (w' := w') (v := v') ?_ ⟨u, m', h2, h3, rfl, h4⟩
  rw [hex w, h1]; rfl
 ·obtain ⟨rfl, hk⟩ := hk
  exact k v' m' hk
end rules
theorem Src.h0 (s : Src) (k k' : Nat) (g : Nat) : s.M k g = none ∨ s.M k' g ≠ none := by
 by_cases e : g = s.g
 ·subst e; right; unfold Src.M; rw [upd_same]; simp
 ·left; unfold Src.M; rw [upd_ne _ _ e]; rfl
def sRow (r : Value × List Value) : Arr := ⟨r.1, 34, 1, r.2⟩
def omA (v : Value) (rows : List (Value × List Value)) : Arr := ⟨v, 27, 1, rows.map (·.1)⟩
theorem sRow_at {r : Value × List Value} {m0 m : PH} : (sRow r).At m0 m = ArrAt m0 m r.1 34 1 r.2 := rfl
theorem omA_at {v : Value} {rows : List (Value × List Value)} {m0 m : PH} : (omA v rows).At m0 m = ArrAt m0 m v 27 1 (rows.map (·.1)) := rfl
theorem srcNew0 {u : PH} {v : Value} {ts : List Int} (h : ListP u v 1 (intsZ ts)) (hl : ts.length ≤ 600) (h1 : ∀ t ∈ ts, -9223372036854775808 ≤ t) (h2 : ∀ t ∈ ts, t ≤ 9223372036854775807) :
  Contract Tryz.prog 9 [v] u PH.mt fun v' u' m' => ∃ s : Src, v' = s.ptr ∧ m' = s.M 0 ∧ SrcOK u' s ts := by
 have hcap : ∃ a c, v = .slice a ts.length c ∧ ts.length ≤ c := by
  obtain ⟨a, c, e1, e2, _⟩ := h
  rw [intsZ_length] at e1 e2
  exact ⟨a, c, e1, e2⟩
 obtain ⟨a, c, rfl, hcap⟩ := hcap
 refine Contract.of Tryz.func9 (by kernel_rfl) (by kernel_rfl) ?_
 refine G.minI [3, 3] (ts.length : Int) 600 (ts.length : Int) (by kernel_rfl) (by omega) ?_
 refine G.sliceTo 1 a ts.length c ts.length (by kernel_rfl) hcap ?_
 refine G.pub 1006 70 [.slice a ts.length c, .int .i64 0] (by kernel_rfl) (by kernel_rfl) ?_
 intro g hu hm
 exact G.ret (.pointer (some ⟨g, 0, none⟩)) (by kernel_rfl) ⟨⟨g, a, ts.length, c⟩, rfl, rfl, h, rfl, hl, h1, h2⟩
theorem Src.bag0 (s : Src) (k : Nat) {l : List Arr} (h : Bag PH.mt l) : Bag (s.M k) (s.arr k :: l) := by
 have := Src.at (s := s) (k := k) (m0 := PH.mt) rfl
 rw [mt_or] at this
 exact ⟨PH.mt, this, h⟩
def SAt (rows : List (Value × List Value)) (M : List (List Rat)) : Prop := rows.length = M.length ∧ ∀ (i : Nat) (r : Value × List Value), rows[i]? = some r → r.2 = strsV ((gM M i).map ratT)
theorem perm_row {o l : Arr} {rows : List Arr} : (l :: o :: rows).Perm (o :: (rows ++ [l])) := by
 refine (List.Perm.swap _ _ _).trans (List.Perm.cons _ ?_)
 exact (List.perm_append_singleton l rows).symm
theorem gM_snoc {M : List (List Rat)} {q : List Rat} (i : Nat) : gM (M ++ [q]) i = if i < M.length then gM M i else if i = M.length then q else [] := by
 unfold gM
 rw [List.getD_eq_getElem?_getD]
 by_cases h1 : i < M.length
 ·rw [if_pos h1, List.getElem?_append_left h1, List.getD_eq_getElem?_getD]
 ·rw [if_neg h1, List.getElem?_append_right (by omega)]
  by_cases h2 : i = M.length
  ·rw [if_pos h2, h2, Nat.sub_self]; rfl
  ·rw [if_neg h2, List.getElem?_eq_none (by simp; omega)]; rfl
theorem SAt.snoc {rows : List (Value × List Value)} {M : List (List Rat)} {r : Value × List Value} {q : List Rat} (h : SAt rows M) (hr : r.2 = strsV (q.map ratT)) : SAt (rows ++ [r]) (M ++ [q]) := by
 refine ⟨by simp [h.1], fun i x hx => ?_⟩
 rw [gM_snoc]
 by_cases h1 : i < M.length
 ·rw [if_pos h1]
  rw [List.getElem?_append_left (by rw [h.1]; exact h1)] at hx
  exact h.2 i x hx
 ·rw [if_neg h1]
  rw [List.getElem?_append_right (by rw [h.1]; omega)] at hx
  by_cases h2 : i = M.length
  ·rw [if_pos h2]
   rw [h.1, h2, Nat.sub_self] at hx
   simp at hx; subst hx; exact hr
  ·rw [List.getElem?_eq_none (by simp [h.1]; omega)] at hx; cases hx
end Go.Proofs.YtldokelpolbnnaaGreatDoor
end
section
set_option linter.unusedSectionVars false
set_option linter.unusedVariables false
namespace Go.Proofs.YtldokelpolbnnaaGreatDoor
open Go.RowKit
structure SmI (q : Rat) : Prop where
 den : q.den = 1
 num : q.num.natAbs ≤ 3
theorem SmI.smR {q : Rat} (h : SmI q) : SmR q := ⟨by have := h.num; omega, by rw [h.den]; exact ⟨12, rfl⟩⟩
theorem ratT_int (z : Int) : ratT (z : Rat) = Lib.itoa z := by
 have h1 : ((z : Int) : Rat).den = 1 := by simp
 have h2 : ((z : Int) : Rat).num = z := by simp
 rw [ratT, if_pos h1, h2]
theorem smI_of {z : Int} (h : z ∈ [0, 0, 1, 2, -1, (3 : Int)]) : SmI (z : Rat) := by
 refine ⟨by simp, ?_⟩
 have h2 : ((z : Int) : Rat).num = z := by simp
 rw [h2]
 simp at h
 omega
theorem perm_row2 {s o l : Arr} {rows : List Arr} : (s :: l :: o :: rows).Perm (s :: o :: (rows ++ [l])) := List.Perm.cons _ perm_row
theorem perm_row3 {s o l : Arr} {rows : List Arr} : (l :: s :: o :: rows).Perm (s :: o :: (rows ++ [l])) := (List.Perm.swap _ _ _).trans perm_row2
def ThinOK (M : List (List Rat)) (C : Nat) : Prop := ∀ i, i < M.length → (gM M i).length = C ∧ ∀ q ∈ gM M i, SmI q
theorem ThinOK.snoc {M : List (List Rat)} {C : Nat} {q : List Rat} (h : ThinOK M C) (h1 : q.length = C) (h2 : ∀ x ∈ q, SmI x) : ThinOK (M ++ [q]) C := by
 intro i hi
 rw [gM_snoc]
 by_cases e : i < M.length
 ·rw [if_pos e]; exact h i e
 ·simp at hi
  rw [if_neg e, if_pos (by omega)]; exact ⟨h1, h2⟩
set_option maxHeartbeats 8000000 in
theorem srcThin0 {u : PH} {s : Src} {ts : List Int} {k R C : Nat} (h : SrcOK u s ts) (hk : k ≤ s.n) (hR : R ≤ 12) (hC' : R = 0 ∨ 0 < C) (hC2 : C ≤ 12) :
  Contract Tryz.prog 56 [s.ptr, .int .i64 (R : Int), .int .i64 (C : Int)] u (s.M k) fun v u' m' => ∃ a c rows M k', v = .slice a R c ∧ SAt rows M ∧ M.length = R ∧ ThinOK M C ∧ k' ≤ s.n ∧ Bag m' (s.arr k' :: omA (.slice a R c) rows :: rows.map sRow) := by
 refine Contract.of Tryz.func56 (by kernel_rfl) (by kernel_rfl) ?_
 refine G.loop (ι := Nat × Nat × (Option Addr × Nat) × List (Value × List Value) × List (List Rat)) (fun i => [(0, .v s.ptr), (1, .v (.int .i64 (R : Int))), (2, .v (.int .i64 (C : Int))), (7, .v (.slice i.2.2.1.1 i.1 i.2.2.1.2)), (8, .v (.int .i64 (i.1 : Int)))]) (fun _ => [])
  (fun i u' m' => i.1 ≤ R ∧ i.2.1 ≤ s.n ∧ SAt i.2.2.2.1 i.2.2.2.2 ∧ i.2.2.2.2.length = i.1 ∧ ThinOK i.2.2.2.2 C ∧ Bag m' (s.arr i.2.1 :: omA (.slice i.2.2.1.1 i.1 i.2.2.1.2) i.2.2.2.1 :: i.2.2.2.1.map sRow))
  (fun i => R - i.1) (0, k, (none, 0), [], []) (by kernel_rfl) (fun _ => by kernel_rfl) ⟨by kernel_rfl, by kernel_rfl, by kernel_rfl⟩
  ⟨Nat.zero_le _, hk, ⟨rfl, fun j r hj => by simp at hj⟩, rfl, fun j hj => by simp at hj, s.bag0 k ⟨PH.mt, ArrAt.nil _ _ _, trivial⟩⟩ ?_
 rintro J ⟨i, k1, ⟨a, c⟩, rows, M⟩ hJ u1 m1 l1 ⟨hi, hk1, hS, hMl, hT, hbag⟩
 simp only at hi hk1 hS hMl hT hbag hJ
 have hrl : rows.length = i := by rw [hS.1, hMl]
 by_cases hlt : i < R
 ·have hC : 0 < C := by omega
  refine G.lssT (i : Int) (R : Int) (by kernel_rfl) (by omega) ?_
  rcases Nat.eq_zero_or_pos i with hi0 | hi0
  ·subst hi0
   refine G.gtrF ((0 : Nat) : Int) 0 (by kernel_rfl) (by omega) ?_
   refine G.loop (ι := Nat × Nat × (Option Addr × Nat) × List Rat) (fun j => [(0, .v s.ptr), (1, .v (.int .i64 (R : Int))), (2, .v (.int .i64 (C : Int))), (7, .v (.slice a (0 : Nat) c)), (8, .v (.int .i64 ((0 : Nat) : Int))), (9, .v (.slice j.2.2.1.1 j.2.2.2.length j.2.2.1.2)), (10, .v (.int .i64 (j.1 : Int)))]) (fun _ => [])
    (fun j u' m' => j.1 ≤ C ∧ j.2.1 ≤ s.n ∧ j.2.2.2.length = j.1 ∧ (∀ q ∈ j.2.2.2, SmI q) ∧ Bag m' (s.arr j.2.1 :: sRow (.slice j.2.2.1.1 j.2.2.2.length j.2.2.1.2, strsV (j.2.2.2.map ratT)) :: omA (.slice a (0 : Nat) c) rows :: rows.map sRow))
    (fun j => C - j.1) (0, k1, (none, 0), []) (by kernel_rfl) (fun _ => by kernel_rfl) ⟨by kernel_rfl, by kernel_rfl, by kernel_rfl⟩
    ⟨Nat.zero_le _, hk1, rfl, fun q hq => by simp at hq, by
     obtain ⟨m9, hs9, hl9⟩ := hbag
     exact ⟨m9, hs9, m9, ArrAt.nil _ _ _, hl9⟩⟩ ?_
   rintro J2 ⟨j, kj, ⟨aj, cj⟩, qs⟩ hJ2 u10 m10 l10 ⟨hj, hkj, hql, hqs, hbagj⟩
   simp only at hj hkj hql hqs hbagj hJ2
   obtain ⟨mj, hsrcj, hLj⟩ := hbagj
   obtain ⟨rfl, hgj⟩ := Src.split hsrcj
   by_cases hltj : j < C
   ·refine G.lssT (j : Int) (C : Int) (by kernel_rfl) (by omega) ?_
    refine G.buildU 3 1 8 (.int .i64 0) (intsZ [0, 0, 1, 2, -1, 3]) (by kernel_rfl) (intsZ_ok _) rfl (by omega) (by simp [intsZ]) (by simp [intsZ]) ?_
    intro g11 u11 l11 e11
    have hLP : ListP u11 (.slice (some ⟨g11, 0, none⟩) 6 6) 1 (intsZ [0, 0, 1, 2, -1, 3]) := ⟨_, 6, rfl, Nat.le_refl _, fun j e hj => ⟨g11, 0, rfl, e11 j e hj⟩⟩
    refine G.callA _ _ (by kernel_rfl) (by kernel_rfl) Tryz.call40 rfl (Src.apart hgj) (srcPick0 (h.mono (l1.trans (l10.trans l11))) hkj hLP (by simp) (by simp)) ?_
    rintro v12 u12 m12 l12 ⟨z, hz, k12, rfl, hk12, rfl⟩ _
    have hzs := smI_of hz
    have hzb : -9223372036854775807 ≤ z ∧ z ≤ 9223372036854775807 := by simp at hz; omega
    refine G.call0 _ _ (by kernel_rfl) Tryz.call100 (refWhole0 hzb.1 hzb.2) ?_
    rintro v13 u13 l13 rfl
    rw [← ratT_int]
    refine G.buildU 34 1 16 (.string (mkS [])) [.string (mkS (ratT (z : Rat)))] (by kernel_rfl) (strsV_ok [ratT (z : Rat)]) rfl (by omega) (by simp) (by simp) ?_
    intro g14 u14 l14 e14
    have hbagk : Bag (mj.or (s.M k12)) (s.arr k12 :: sRow (.slice aj qs.length cj, strsV (qs.map ratT)) :: omA (.slice a (0 : Nat) c) rows :: rows.map sRow) := ⟨mj, Src.at hgj, hLj⟩
    obtain ⟨mm, hx0, hput⟩ := hbagk.focus 1 rfl
    rw [sRow_at] at hx0
    refine G.append 34 1 16 (.string (mkS [])) mm (strsV (qs.map ratT)) [.string (mkS (ratT (z : Rat)))] (.slice aj qs.length cj) g14 0 1 1 (by kernel_rfl) rfl rfl (by omega) hx0 e14 (strsV_ok [ratT (z : Rat)]) rfl (by omega) (by simp [strsV]; omega) (by simp [strsV]; omega) ?_
    intro v15 m15 hx15
    rw [strsV_snoc, show qs.map ratT ++ [ratT (z : Rat)] = (qs ++ [(z : Rat)]).map ratT by simp] at hx15
    obtain ⟨a15, c15, rfl⟩ := hx15.shape
    have el : (strsV ((qs ++ [(z : Rat)]).map ratT)).length = (qs ++ [(z : Rat)]).length := by simp [strsV]
    rw [el] at hx15 ⊢
    have hbagl := hput (sRow (.slice a15 (qs ++ [(z : Rat)]).length c15, strsV ((qs ++ [(z : Rat)]).map ratT))) m15 hx15
    refine G.add (j : Int) 1 ((j + 1 : Nat) : Int) (by kernel_rfl) (by omega) (by omega) (by omega) ?_
    refine G.back (by kernel_rfl) (hJ2 (j + 1, k12, (a15, c15), qs ++ [(z : Rat)]) _ _ _ ⟨by kernel_rfl, by kernel_rfl, by kernel_rfl⟩ ((((l10.trans l11).trans l12).trans l13).trans l14) ⟨by dsimp only; omega, hk12, by dsimp only; simp [hql], ?_, hbagl⟩ (by dsimp only; omega))
    intro x hx
    rcases List.mem_append.1 hx with hx | hx
    ·exact hqs x hx
    ·simp at hx; subst hx; exact hzs
   ·obtain rfl : j = C := by omega
    refine G.lssF (j : Int) (j : Int) (by kernel_rfl) (by omega) ?_
    have hbagk : Bag (mj.or (s.M kj)) (s.arr kj :: sRow (.slice aj qs.length cj, strsV (qs.map ratT)) :: omA (.slice a (0 : Nat) c) rows :: rows.map sRow) := ⟨mj, hsrcj, hLj⟩
    refine G.buildU 27 1 24 (.slice none 0 0) [.slice aj qs.length cj] (by kernel_rfl) (slice_ok _ _ _) rfl (by omega) (by simp) (by simp) ?_
    intro g15 u15 l15 e15
    obtain ⟨mm, hx0, hput⟩ := hbagk.focus 2 rfl
    rw [omA_at] at hx0
    refine G.append 27 1 24 (.slice none 0 0) mm (rows.map (·.1)) [.slice aj qs.length cj] (.slice a (0 : Nat) c) g15 0 1 1 (by kernel_rfl) rfl rfl (by omega) hx0 e15 (slice_ok _ _ _) rfl (by omega) (by simp; omega) (by simp; omega) ?_
    intro v16 m16 hx16
    have em : rows.map (·.1) ++ [Value.slice aj qs.length cj] = (rows ++ [(Value.slice aj qs.length cj, strsV (qs.map ratT))]).map (·.1) := by simp
    rw [em] at hx16
    obtain ⟨a16, c16, rfl⟩ := hx16.shape
    have el : ((rows ++ [(Value.slice aj qs.length cj, strsV (qs.map ratT))]).map (·.1)).length = (0 : Nat) + 1 := by simp [hrl]
    rw [el] at hx16 ⊢
    have hbagl := hput (omA (.slice a16 ((0 : Nat) + 1) c16) (rows ++ [(Value.slice aj qs.length cj, strsV (qs.map ratT))])) m16 hx16
    have hbagm := Bag.perm perm_row2 hbagl
    refine G.add (((0 : Nat) : Nat) : Int) 1 (((0 : Nat) + 1 : Nat) : Int) (by kernel_rfl) (by omega) (by omega) (by omega) ?_
    exact G.back (by kernel_rfl) (hJ ((0 : Nat) + 1, kj, (a16, c16), rows ++ [(Value.slice aj qs.length cj, strsV (qs.map ratT))], M ++ [qs]) _ _ _ ⟨by kernel_rfl, by kernel_rfl, by kernel_rfl⟩ (l1.trans (l10.trans l15)) ⟨by dsimp only; omega, hkj, hS.snoc rfl, by simp [hMl], hT.snoc hql hqs, by simpa using hbagm⟩ (by dsimp only; omega))
  ·refine G.gtrT (i : Int) 0 (by kernel_rfl) (by omega) ?_
   obtain ⟨m0, hsrc, hL⟩ := hbag
   obtain ⟨rfl, hg0⟩ := Src.split hsrc
   refine G.callA _ _ (by kernel_rfl) (by kernel_rfl) Tryz.call10 rfl (Src.apart hg0) (srcN0 (n := 4) (h.mono l1) hk1 (by omega) (by omega)) ?_
   rintro v2 u2 m2 l2 ⟨r, k2, rfl, hr, hk2, rfl⟩ _
   by_cases hr3 : r = 3
   ·refine G.eqlT (r : Int) 3 (by kernel_rfl) (by omega) ?_
    refine G.callA _ _ (by kernel_rfl) (by kernel_rfl) Tryz.call10 rfl (Src.apart hg0) (srcN0 (n := i) (h.mono (l1.trans l2)) hk2 hi0 (by omega)) ?_
    rintro v3 u3 m3 l3 ⟨r2, k3, rfl, hr2, hk3, rfl⟩ _
    have hbag2 : Bag (m0.or (s.M k3)) (s.arr k3 :: omA (.slice a i c) rows :: rows.map sRow) := ⟨m0, Src.at hg0, hL⟩
    have hrr : rows[r2]? = some rows[r2] := List.getElem?_eq_getElem (by omega)
    have hrc := hS.2 r2 _ hrr
    obtain ⟨⟨rv, res⟩, hre⟩ : ∃ x, rows[r2] = x := ⟨_, rfl⟩
    rw [hre] at hrr hrc
    simp only at hrc
    obtain ⟨hq1, hq2⟩ := hT r2 (by omega)
    have hget : (s.arr k3 :: omA (.slice a i c) rows :: rows.map sRow)[r2 + 2]? = some (sRow (rv, res)) := by simp [hrr]
    have hresl : res.length = C := by rw [hrc]; simp [strsV, hq1]
    obtain ⟨gr, cr, e⟩ := hbag2.ptr (r2 + 2) hget (by intro e; simp only [sRow] at e; rw [e] at hresl; simp at hresl; omega)
    simp only [sRow] at e
    rw [hresl] at e
    subst e
    obtain ⟨go, co, eo⟩ := hbag2.ptr 1 rfl (by intro e; simp only [omA, List.map_eq_nil_iff] at e; rw [e] at hrl; simp at hrl; omega)
    simp only [omA, Value.slice.injEq] at eo
    obtain ⟨rfl, _, rfl⟩ := eo
    have hro : ElP (m0.or (s.M k3)) go (0 + r2 * 1) (.slice (some ⟨gr, 0, none⟩) C cr) := hbag2.el 1 (x := omA _ rows) rfl rfl (by show (rows.map (·.1))[r2]? = _; rw [List.getElem?_map, hrr]; rfl)
    have hxs : ElsP (m0.or (s.M k3)) gr 0 1 res := fun j e hj => hbag2.el (r2 + 2) hget rfl hj
    refine G.addr go 0 i c r2 1 (by kernel_rfl) hr2 ?_
    refine G.loadM none go (0 + r2 * 1) _ (by kernel_rfl) (by kernel_rfl) hro ?_
    refine G.appendM 34 1 16 (.string (mkS [])) (m0.or (s.M k3)) [] res (.slice none 0 0) gr 0 C cr (by kernel_rfl) rfl rfl (by omega) (ArrAt.nil _ _ _) hxs (by rw [hrc]; exact strsV_ok _) hresl hC (by simp; omega) (by simp; omega) ?_
    intro v4 m4 hx4
    rw [List.nil_append] at hx4
    obtain ⟨a4, c4, rfl⟩ := hx4.shape
    rw [hresl] at hx4 ⊢
    have hbag3 : Bag m4 (sRow (.slice a4 C c4, res) :: s.arr k3 :: omA (.slice (some ⟨go, 0, none⟩) i c) rows :: rows.map sRow) := ⟨_, hx4, hbag2⟩
    refine G.buildU 27 1 24 (.slice none 0 0) [.slice a4 C c4] (by kernel_rfl) (slice_ok _ _ _) rfl (by omega) (by simp) (by simp) ?_
    intro g5 u5 l5 e5
    obtain ⟨mm, hx0, hput⟩ := hbag3.focus 2 rfl
    rw [omA_at] at hx0
    refine G.append 27 1 24 (.slice none 0 0) mm (rows.map (·.1)) [.slice a4 C c4] (.slice (some ⟨go, 0, none⟩) i c) g5 0 1 1 (by kernel_rfl) rfl rfl (by omega) hx0 e5 (slice_ok _ _ _) rfl (by omega) (by simp; omega) (by simp; omega) ?_
    intro v6 m6 hx6
    have em : rows.map (·.1) ++ [Value.slice a4 C c4] = (rows ++ [(Value.slice a4 C c4, res)]).map (·.1) := by simp
    rw [em] at hx6
    obtain ⟨a6, c6, rfl⟩ := hx6.shape
    have el : ((rows ++ [(Value.slice a4 C c4, res)]).map (·.1)).length = i + 1 := by simp [hrl]
    rw [el] at hx6 ⊢
    have hbag4 := hput (omA (.slice a6 (i + 1) c6) (rows ++ [(Value.slice a4 C c4, res)])) m6 hx6
    have hbag5 := Bag.perm perm_row3 hbag4
    refine G.add (i : Int) 1 ((i + 1 : Nat) : Int) (by kernel_rfl) (by omega) (by omega) (by omega) ?_
    exact G.back (by kernel_rfl) (hJ (i + 1, k3, (a6, c6), rows ++ [(.slice a4 C c4, res)], M ++ [gM M r2]) _ _ _ ⟨by kernel_rfl, by kernel_rfl, by kernel_rfl⟩ (((l1.trans l2).trans l3).trans l5) ⟨by dsimp only; omega, hk3, hS.snoc hrc, by simp [hMl], hT.snoc hq1 hq2, by simpa using hbag5⟩ (by dsimp only; omega))
   ·refine G.eqlF (r : Int) 3 (by kernel_rfl) (by omega) ?_
    have hbag : Bag (m0.or (s.M k2)) (s.arr k2 :: omA (.slice a i c) rows :: rows.map sRow) := ⟨m0, Src.at hg0, hL⟩
    refine G.loop (ι := Nat × Nat × (Option Addr × Nat) × List Rat) (fun j => [(0, .v s.ptr), (1, .v (.int .i64 (R : Int))), (2, .v (.int .i64 (C : Int))), (7, .v (.slice a i c)), (8, .v (.int .i64 (i : Int))), (9, .v (.slice j.2.2.1.1 j.2.2.2.length j.2.2.1.2)), (10, .v (.int .i64 (j.1 : Int)))]) (fun _ => [])
     (fun j u' m' => j.1 ≤ C ∧ j.2.1 ≤ s.n ∧ j.2.2.2.length = j.1 ∧ (∀ q ∈ j.2.2.2, SmI q) ∧ Bag m' (s.arr j.2.1 :: sRow (.slice j.2.2.1.1 j.2.2.2.length j.2.2.1.2, strsV (j.2.2.2.map ratT)) :: omA (.slice a i c) rows :: rows.map sRow))
     (fun j => C - j.1) (0, k2, (none, 0), []) (by kernel_rfl) (fun _ => by kernel_rfl) ⟨by kernel_rfl, by kernel_rfl, by kernel_rfl⟩
     ⟨Nat.zero_le _, hk2, rfl, fun q hq => by simp at hq, by
      obtain ⟨m9, hs9, hl9⟩ := hbag
      exact ⟨m9, hs9, m9, ArrAt.nil _ _ _, hl9⟩⟩ ?_
    rintro J2 ⟨j, kj, ⟨aj, cj⟩, qs⟩ hJ2 u10 m10 l10 ⟨hj, hkj, hql, hqs, hbagj⟩
    simp only at hj hkj hql hqs hbagj hJ2
    obtain ⟨mj, hsrcj, hLj⟩ := hbagj
    obtain ⟨rfl, hgj⟩ := Src.split hsrcj
    by_cases hltj : j < C
    ·refine G.lssT (j : Int) (C : Int) (by kernel_rfl) (by omega) ?_
     refine G.buildU 3 1 8 (.int .i64 0) (intsZ [0, 0, 1, 2, -1, 3]) (by kernel_rfl) (intsZ_ok _) rfl (by omega) (by simp [intsZ]) (by simp [intsZ]) ?_
     intro g11 u11 l11 e11
     have hLP : ListP u11 (.slice (some ⟨g11, 0, none⟩) 6 6) 1 (intsZ [0, 0, 1, 2, -1, 3]) := ⟨_, 6, rfl, Nat.le_refl _, fun j e hj => ⟨g11, 0, rfl, e11 j e hj⟩⟩
     refine G.callA _ _ (by kernel_rfl) (by kernel_rfl) Tryz.call40 rfl (Src.apart hgj) (srcPick0 (h.mono ((l1.trans l2).trans (l10.trans l11))) hkj hLP (by simp) (by simp)) ?_
     rintro v12 u12 m12 l12 ⟨z, hz, k12, rfl, hk12, rfl⟩ _
     have hzs := smI_of hz
     have hzb : -9223372036854775807 ≤ z ∧ z ≤ 9223372036854775807 := by simp at hz; omega
     refine G.call0 _ _ (by kernel_rfl) Tryz.call100 (refWhole0 hzb.1 hzb.2) ?_
     rintro v13 u13 l13 rfl
     rw [← ratT_int]
     refine G.buildU 34 1 16 (.string (mkS [])) [.string (mkS (ratT (z : Rat)))] (by kernel_rfl) (strsV_ok [ratT (z : Rat)]) rfl (by omega) (by simp) (by simp) ?_
     intro g14 u14 l14 e14
     have hbagk : Bag (mj.or (s.M k12)) (s.arr k12 :: sRow (.slice aj qs.length cj, strsV (qs.map ratT)) :: omA (.slice a i c) rows :: rows.map sRow) := ⟨mj, Src.at hgj, hLj⟩
     obtain ⟨mm, hx0, hput⟩ := hbagk.focus 1 rfl
     rw [sRow_at] at hx0
     refine G.append 34 1 16 (.string (mkS [])) mm (strsV (qs.map ratT)) [.string (mkS (ratT (z : Rat)))] (.slice aj qs.length cj) g14 0 1 1 (by kernel_rfl) rfl rfl (by omega) hx0 e14 (strsV_ok [ratT (z : Rat)]) rfl (by omega) (by simp [strsV]; omega) (by simp [strsV]; omega) ?_
     intro v15 m15 hx15
     rw [strsV_snoc, show qs.map ratT ++ [ratT (z : Rat)] = (qs ++ [(z : Rat)]).map ratT by simp] at hx15
     obtain ⟨a15, c15, rfl⟩ := hx15.shape
     have el : (strsV ((qs ++ [(z : Rat)]).map ratT)).length = (qs ++ [(z : Rat)]).length := by simp [strsV]
     rw [el] at hx15 ⊢
     have hbagl := hput (sRow (.slice a15 (qs ++ [(z : Rat)]).length c15, strsV ((qs ++ [(z : Rat)]).map ratT))) m15 hx15
     refine G.add (j : Int) 1 ((j + 1 : Nat) : Int) (by kernel_rfl) (by omega) (by omega) (by omega) ?_
     refine G.back (by kernel_rfl) (hJ2 (j + 1, k12, (a15, c15), qs ++ [(z : Rat)]) _ _ _ ⟨by kernel_rfl, by kernel_rfl, by kernel_rfl⟩ ((((l10.trans l11).trans l12).trans l13).trans l14) ⟨by dsimp only; omega, hk12, by dsimp only; simp [hql], ?_, hbagl⟩ (by dsimp only; omega))
     intro x hx
     rcases List.mem_append.1 hx with hx | hx
     ·exact hqs x hx
     ·simp at hx; subst hx; exact hzs
    ·obtain rfl : j = C := by omega
     refine G.lssF (j : Int) (j : Int) (by kernel_rfl) (by omega) ?_
     have hbagk : Bag (mj.or (s.M kj)) (s.arr kj :: sRow (.slice aj qs.length cj, strsV (qs.map ratT)) :: omA (.slice a i c) rows :: rows.map sRow) := ⟨mj, hsrcj, hLj⟩
     refine G.buildU 27 1 24 (.slice none 0 0) [.slice aj qs.length cj] (by kernel_rfl) (slice_ok _ _ _) rfl (by omega) (by simp) (by simp) ?_
     intro g15 u15 l15 e15
     obtain ⟨mm, hx0, hput⟩ := hbagk.focus 2 rfl
     rw [omA_at] at hx0
     refine G.append 27 1 24 (.slice none 0 0) mm (rows.map (·.1)) [.slice aj qs.length cj] (.slice a i c) g15 0 1 1 (by kernel_rfl) rfl rfl (by omega) hx0 e15 (slice_ok _ _ _) rfl (by omega) (by simp; omega) (by simp; omega) ?_
     intro v16 m16 hx16
     have em : rows.map (·.1) ++ [Value.slice aj qs.length cj] = (rows ++ [(Value.slice aj qs.length cj, strsV (qs.map ratT))]).map (·.1) := by simp
     rw [em] at hx16
     obtain ⟨a16, c16, rfl⟩ := hx16.shape
     have el : ((rows ++ [(Value.slice aj qs.length cj, strsV (qs.map ratT))]).map (·.1)).length = i + 1 := by simp [hrl]
     rw [el] at hx16 ⊢
     have hbagl := hput (omA (.slice a16 (i + 1) c16) (rows ++ [(Value.slice aj qs.length cj, strsV (qs.map ratT))])) m16 hx16
     have hbagm := Bag.perm perm_row2 hbagl
     refine G.add ((i : Nat) : Int) 1 ((i + 1 : Nat) : Int) (by kernel_rfl) (by omega) (by omega) (by omega) ?_
     exact G.back (by kernel_rfl) (hJ (i + 1, kj, (a16, c16), rows ++ [(Value.slice aj qs.length cj, strsV (qs.map ratT))], M ++ [qs]) _ _ _ ⟨by kernel_rfl, by kernel_rfl, by kernel_rfl⟩ ((l1.trans l2).trans (l10.trans l15)) ⟨by dsimp only; omega, hkj, hS.snoc rfl, by simp [hMl], hT.snoc hql hqs, by simpa using hbagm⟩ (by dsimp only; omega))
 ·obtain rfl : i = R := by omega
  refine G.lssF (i : Int) (i : Int) (by kernel_rfl) (by omega) ?_
  exact G.ret (.slice a i c) (by kernel_rfl) ⟨a, c, rows, M, k1, rfl, hS, hMl, hT, hk1, hbag⟩
def symUpd (M : List (List Rat)) (i k : Nat) : List (List Rat) := M.set i ((gM M i).set k (gR (gM M k) i))
theorem SAt.set {rows : List (Value × List Value)} {M : List (List Rat)} {i : Nat} {r : Value × List Value} {q : List Rat} (h : SAt rows M) (hi : i < rows.length) (hr : r.2 = strsV (q.map ratT)) : SAt (rows.set i r) (M.set i q) := by
 refine ⟨by simp [h.1], fun j r' hj => ?_⟩
 rw [gM_set (by rw [← h.1]; exact hi)]
 rw [List.getElem?_set] at hj
 by_cases e : i = j
 ·subst e
  rw [if_pos rfl, if_pos hi] at hj
  simp only [Option.some.injEq] at hj
  rw [if_pos rfl, ← hj]; exact hr
 ·rw [if_neg e] at hj ⊢
  exact h.2 j r' hj
theorem get_srow {s o : Arr} {rows : List (Value × List Value)} {i : Nat} {r : Value × List Value} (h : rows[i]? = some r) : (s :: o :: rows.map sRow)[i + 2]? = some (sRow r) := by simp [h]
theorem set_srow {s o : Arr} {rows : List (Value × List Value)} {i : Nat} {r : Value × List Value} : (s :: o :: rows.map sRow).set (i + 2) (sRow r) = s :: o :: (rows.set i r).map sRow := by
 rw [List.set_cons_succ, List.set_cons_succ, List.map_set]
theorem map_fst_set {rows : List (Value × List Value)} {i : Nat} {r r' : Value × List Value} (h : rows[i]? = some r) (e : r'.1 = r.1) : (rows.set i r').map (·.1) = rows.map (·.1) := by
 rw [List.map_set]
 apply List.ext_getElem?
 intro j
 rw [List.getElem?_set]
 split
 ·rename_i e'; subst e'
  have hlt : i < rows.length := by
   rcases Nat.lt_or_ge i rows.length with h' | h'
   ·exact h'
   ·rw [List.getElem?_eq_none h'] at h; cases h
  rw [if_pos (by simpa using hlt), List.getElem?_map, h, e]; rfl
 ·rfl
set_option maxHeartbeats 4000000 in
theorem srcSymmetric0 {u : PH} {s : Src} {ts : List Int} {k n : Nat} (h : SrcOK u s ts) (hk : k ≤ s.n) (hn2 : n ≤ 12) :
  Contract Tryz.prog 22 [s.ptr, .int .i64 (n : Int)] u (s.M k) fun v u' m' => ∃ (A : List (List Rat)) (k' : Nat), MatP u' v (matT A) ∧ A.length = n ∧ ThinOK A n ∧ (∀ i j, j < i → i < n → gR (gM A i) j = gR (gM A j) i) ∧ k' ≤ s.n ∧ m' = s.M k' := by
 refine Contract.of Tryz.func22 (by kernel_rfl) (by kernel_rfl) ?_
 refine G.callA _ _ (by kernel_rfl) (by kernel_rfl) Tryz.call56 (mt_or _).symm (apart_mt _) (srcThin0 h hk hn2 (by omega) hn2) ?_
 rintro v1 u1 m1 l1 ⟨a, c, rows, M, k1, rfl, hS, hMl, hT, hk1, hbag⟩ _
 rw [mt_or]
 refine G.loop (ι := Nat × List (Value × List Value) × List (List Rat)) (fun i => [(5, .v (.slice a n c)), (13, .v (.int .i64 (n : Int))), (14, .v (.int .i64 (i.1 : Int)))]) (fun _ => [])
  (fun i u' m' => i.1 ≤ n ∧ SAt i.2.1 i.2.2 ∧ i.2.2.length = n ∧ ThinOK i.2.2 n ∧ (∀ x y, y < x → x < i.1 → gR (gM i.2.2 x) y = gR (gM i.2.2 y) x) ∧ Bag m' (s.arr k1 :: omA (.slice a n c) i.2.1 :: i.2.1.map sRow))
  (fun i => n - i.1) (0, rows, M) (by kernel_rfl) (fun _ => by kernel_rfl) ⟨by kernel_rfl, by kernel_rfl, by kernel_rfl⟩ ⟨Nat.zero_le _, hS, hMl, hT, fun x y _ h => absurd h (Nat.not_lt_zero _), hbag⟩ ?_
 clear hbag hS hMl hT
 rintro J ⟨i, rows, M⟩ hJ u2 m2 l2 ⟨hi, hS, hMl, hT, hsym, hbag⟩
 simp only at hi hS hMl hT hsym hbag hJ
 by_cases hlt : i < n
 ·refine G.lssT (i : Int) (n : Int) (by kernel_rfl) (by omega) ?_
  refine G.loop (ι := Nat × List (Value × List Value) × List (List Rat)) (fun j => [(5, .v (.slice a n c)), (13, .v (.int .i64 (n : Int))), (14, .v (.int .i64 (i : Int))), (6, .v (.int .i64 (i : Int))), (7, .v (.int .i64 (j.1 : Int)))]) (fun _ => [])
   (fun j u' m' => j.1 ≤ i ∧ SAt j.2.1 j.2.2 ∧ j.2.2.length = n ∧ ThinOK j.2.2 n ∧ (∀ x y, y < x → x < i → gR (gM j.2.2 x) y = gR (gM j.2.2 y) x) ∧ (∀ y, y < j.1 → gR (gM j.2.2 i) y = gR (gM j.2.2 y) i) ∧ Bag m' (s.arr k1 :: omA (.slice a n c) j.2.1 :: j.2.1.map sRow))
   (fun j => i - j.1) (0, rows, M) (by kernel_rfl) (fun _ => by kernel_rfl) ⟨by kernel_rfl, by kernel_rfl, by kernel_rfl⟩ ⟨Nat.zero_le _, hS, hMl, hT, hsym, fun y hy => absurd hy (Nat.not_lt_zero _), hbag⟩ ?_
  clear hbag hS hMl hT hsym
  rintro J2 ⟨j, rows, M⟩ hJ2 u3 m3 l3 ⟨hj, hS, hMl, hT, hsym, hsy2, hbag⟩
  simp only at hj hS hMl hT hsym hsy2 hbag hJ2
  have hrl : rows.length = n := by rw [hS.1, hMl]
  by_cases hltj : j < i
  ·refine G.lssT (j : Int) (i : Int) (by kernel_rfl) (by omega) ?_
   have hgi := hT i (by omega)
   have hgj := hT j (by omega)
   have hri : rows[i]? = some rows[i] := List.getElem?_eq_getElem (by omega)
   have hrj : rows[j]? = some rows[j] := List.getElem?_eq_getElem (by omega)
   have hci := hS.2 i _ hri
   have hcj := hS.2 j _ hrj
   obtain ⟨⟨vi, ei⟩, hei⟩ : ∃ x, rows[i] = x := ⟨_, rfl⟩
   obtain ⟨⟨vj, ej⟩, hej⟩ : ∃ x, rows[j] = x := ⟨_, rfl⟩
   rw [hei] at hri hci
   rw [hej] at hrj hcj
   simp only at hci hcj
   have hil : ei.length = n := by rw [hci]; simp [strsV, hgi.1]
   have hjl : ej.length = n := by rw [hcj]; simp [strsV, hgj.1]
   obtain ⟨go, co, eo⟩ := hbag.ptr 1 rfl (by intro e; simp only [omA, List.map_eq_nil_iff] at e; rw [e] at hrl; simp at hrl; omega)
   simp only [omA, Value.slice.injEq] at eo
   obtain ⟨rfl, _, rfl⟩ := eo
   obtain ⟨g1, c1, e1⟩ := hbag.ptr (i + 2) (get_srow hri) (by intro e; simp only [sRow] at e; rw [e] at hil; simp at hil; omega)
   simp only [sRow] at e1
   rw [hil] at e1
   subst e1
   obtain ⟨g2, c2, e2⟩ := hbag.ptr (j + 2) (get_srow hrj) (by intro e; simp only [sRow] at e; rw [e] at hjl; simp at hjl; omega)
   simp only [sRow] at e2
   rw [hjl] at e2
   subst e2
   have ho1 : ElP m3 go (0 + i * 1) (.slice (some ⟨g1, 0, none⟩) n c1) := hbag.el 1 (x := omA _ rows) rfl rfl (by show (rows.map (·.1))[i]? = _; rw [List.getElem?_map, hri]; rfl)
   have ho2 : ElP m3 go (0 + j * 1) (.slice (some ⟨g2, 0, none⟩) n c2) := hbag.el 1 (x := omA _ rows) rfl rfl (by show (rows.map (·.1))[j]? = _; rw [List.getElem?_map, hrj]; rfl)
   have hii : i < (gM M j).length := by rw [hgj.1]; exact hlt
   have hev : ej[i]? = some (.string (mkS (ratT (gR (gM M j) i)))) := by rw [hcj]; simp [strsV, List.getElem?_eq_getElem hii, gR_at hii]
   have he2 : ElP m3 g2 (0 + i * 1) (.string (mkS (ratT (gR (gM M j) i)))) := hbag.el (j + 2) (get_srow hrj) rfl hev
   refine G.addr go 0 n c i 1 (by kernel_rfl) (by omega) ?_
   refine G.loadM none go (0 + i * 1) _ (by kernel_rfl) (by kernel_rfl) ho1 ?_
   refine G.addr go 0 n c j 1 (by kernel_rfl) (by omega) ?_
   refine G.loadM none go (0 + j * 1) _ (by kernel_rfl) (by kernel_rfl) ho2 ?_
   refine G.addr g2 0 n c2 i 1 (by kernel_rfl) (by omega) ?_
   refine G.loadM none g2 (0 + i * 1) _ (by kernel_rfl) (by kernel_rfl) he2 ?_
   obtain ⟨m0, hx0, hput⟩ := hbag.focus (i + 2) (get_srow hri)
   rw [sRow_at] at hx0
   refine G.addr g1 0 n c1 j 1 (by kernel_rfl) (by omega) ?_
   refine G.storeA 1 m0 ei g1 n c1 j (.string (mkS (ratT (gR (gM M j) i)))) (by kernel_rfl) hx0 (by omega) rfl rfl ?_
   intro m4 hx4
   have hbag2 := hput (sRow (.slice (some ⟨g1, 0, none⟩) n c1, ei.set j (.string (mkS (ratT (gR (gM M j) i)))))) m4 hx4
   rw [set_srow] at hbag2
   have hom : omA (.slice (some ⟨go, 0, none⟩) n c) (rows.set i (.slice (some ⟨g1, 0, none⟩) n c1, ei.set j (.string (mkS (ratT (gR (gM M j) i)))))) = omA (.slice (some ⟨go, 0, none⟩) n c) rows := by
    unfold omA; rw [map_fst_set (r' := (.slice (some ⟨g1, 0, none⟩) n c1, ei.set j (.string (mkS (ratT (gR (gM M j) i)))))) hri rfl]
   have hgg : ∀ x y, gR (gM (symUpd M i j) x) y = if i = x then (if j = y then gR (gM M j) i else gR (gM M i) y) else gR (gM M x) y := by
    intro x y
    unfold symUpd
    rw [gM_set (by omega)]
    by_cases e : i = x
    ·rw [if_pos e, if_pos e, gR_set (by rw [hgi.1]; omega)]
    ·rw [if_neg e, if_neg e]
   refine G.add (j : Int) 1 ((j + 1 : Nat) : Int) (by kernel_rfl) (by omega) (by omega) (by omega) ?_
   refine G.back (by kernel_rfl) (hJ2 (j + 1, rows.set i (.slice (some ⟨g1, 0, none⟩) n c1, ei.set j (.string (mkS (ratT (gR (gM M j) i))))), symUpd M i j) _ _ _ ⟨by kernel_rfl, by kernel_rfl, by kernel_rfl⟩ l3 ⟨by dsimp only; omega, ?_, ?_, ?_, ?_, ?_, ?_⟩ (by dsimp only; omega))
   ·refine hS.set (by omega) ?_
    dsimp only
    rw [hci]; unfold strsV; rw [← List.map_set, ← List.map_set]
   ·dsimp only; unfold symUpd; simp [hMl]
   ·intro x hx
    dsimp only at hx ⊢
    unfold symUpd at hx ⊢
    rw [List.length_set] at hx
    rw [gM_set (by omega)]
    by_cases e : i = x
    ·rw [if_pos e, List.length_set]
     refine ⟨hgi.1, fun q hq => ?_⟩
     rcases List.mem_or_eq_of_mem_set hq with hq | rfl
     ·exact hgi.2 q hq
     ·exact hgj.2 _ (gR_mem hii)
    ·rw [if_neg e]; exact hT x hx
   ·intro x y h1 h2
    dsimp only at h2 ⊢
    rw [hgg, hgg, if_neg (by omega), if_neg (by omega)]
    exact hsym x y h1 h2
   ·intro y hy
    dsimp only at hy ⊢
    have e1 : gR (gM (symUpd M i j) i) y = if j = y then gR (gM M j) i else gR (gM M i) y := by rw [hgg, if_pos rfl]
    have e2 : gR (gM (symUpd M i j) y) i = gR (gM M y) i := by rw [hgg, if_neg (by omega)]
    rw [e1, e2]
    by_cases e : j = y
    ·rw [if_pos e, e]
    ·rw [if_neg e]; exact hsy2 y (by omega)
   ·dsimp only; rw [hom]; exact hbag2
  ·obtain rfl : j = i := by omega
   refine G.lssF (j : Int) (j : Int) (by kernel_rfl) (by omega) ?_
   refine G.add (j : Int) 1 ((j + 1 : Nat) : Int) (by kernel_rfl) (by omega) (by omega) (by omega) ?_
   refine G.back (by kernel_rfl) (hJ (j + 1, rows, M) _ _ _ ⟨by kernel_rfl, by kernel_rfl, by kernel_rfl⟩ (l2.trans l3) ⟨by dsimp only; omega, hS, hMl, hT, ?_, hbag⟩ (by dsimp only; omega))
   intro x y h1 h2
   dsimp only at h2 ⊢
   by_cases e : x = j
   ·subst e; exact hsy2 y h1
   ·exact hsym x y h1 (by omega)
 ·obtain rfl : i = n := by omega
  refine G.lssF (i : Int) (i : Int) (by kernel_rfl) (by omega) ?_
  obtain ⟨m0, hsrc, hL⟩ := hbag
  obtain ⟨rfl, hg0⟩ := Src.split hsrc
  refine G.giveP (ma := m0) (sm := s.M k1) (by kernel_rfl) rfl (Src.apart hg0) (s.h0 k k1) ?_
  intro u3 l3 hm
  refine G.ret (.slice a i c) (by kernel_rfl) ⟨M, k1, ?_, hMl, hT, fun x y h1 h2 => hsym x y h1 h2, hk1, rfl⟩
  refine ⟨rows.map (fun r : Value × List Value => r.1), hL.list hm 0 rfl, ?_, fun x r hx => ?_⟩
  ·simp [matT, hS.1]
  ·have hxl : x < M.length := by
    rcases Nat.lt_or_ge x M.length with h' | h'
    ·exact h'
    ·rw [List.getElem?_eq_none (by simpa [matT] using h')] at hx; cases hx
   have hxr : x < rows.length := by rw [hS.1]; exact hxl
   have hrx : rows[x]? = some rows[x] := List.getElem?_eq_getElem hxr
   have hcx := hS.2 x _ hrx
   have hrm : r = (gM M x).map ratT := by
    rw [matT, List.getElem?_map, List.getElem?_eq_getElem hxl] at hx
    simp at hx; rw [← hx, gM_at hxl]
   subst hrm
   have hlp := hL.list hm (x + 1) (x := sRow rows[x]) (by simp [hrx])
   simp only [sRow] at hlp
   rw [hcx] at hlp
   obtain ⟨ax, cx, ex⟩ := hlp.opn
   rw [strsV_length] at ex
   refine ⟨ax, cx, ?_, ?_⟩
   ·rw [List.getElem?_map, hrx, ← ex]; rfl
   ·rw [← ex]; exact hlp
end Go.Proofs.YtldokelpolbnnaaGreatDoor
end
section
set_option linter.unusedSectionVars false
set_option linter.unusedVariables false
namespace Go.Proofs.YtldokelpolbnnaaGreatDoor
open Go.RowKit
theorem all_small {p : List Rat} (h : p.all smallB = true) : (∀ q ∈ p, Tx q) ∧ SzL p 12 := by
 rw [List.all_eq_true] at h
 exact ⟨fun q hq => (smallB_spec (h q hq)).1, fun q hq => (smallB_spec (h q hq)).2⟩
structure Tw (q : Rat) : Prop where
 den : q.den ∣ 12
 num : q.num.natAbs ≤ 1000
theorem Tw.small {q : Rat} (h : Tw q) : smallB q = true := by
 have h1 := h.num
 have h2 : q.den ≤ 12 := Nat.le_of_dvd (by omega) h.den
 simp only [smallB, Bool.and_eq_true, decide_eq_true_eq]
 have e : (1000 : Nat) < 10 ^ 100 := by decide
 exact ⟨Nat.lt_of_le_of_lt h1 e, Nat.lt_of_le_of_lt (by omega : q.den ≤ 1000) e⟩
theorem Tw.tx {q : Rat} (h : Tw q) : Tx q := (smallB_spec h.small).1
theorem Tw.sz {q : Rat} (h : Tw q) : Sz q 12 := (smallB_spec h.small).2
theorem light12 {A : List (List Rat)} (h : ∀ r ∈ A, ∀ q ∈ r, Tw q) : Light A 12 100 := by
 refine ⟨fun r hr q hq => (h r hr q hq).den, by omega, Nat.le_trans (nl_le_of_lt (k := 1) (by omega)) (by omega), fun D hD h0 => ⟨?_, fun r hr q hq hd => ?_⟩⟩
 ·have : D ≤ 12 := Nat.le_of_dvd (by omega) hD
  exact Nat.le_trans (dig_of_lt (k := 2) (by omega) (by omega)) (by omega)
 ·have h1 : D ≤ 12 := Nat.le_of_dvd (by omega) hD
  have h2 := (h r hr q hq).num
  have h3 : D / q.den ≤ 12 := Nat.le_trans (Nat.div_le_self _ _) h1
  rw [Int.natAbs_mul, Int.natAbs_natCast]
  have h4 : q.num.natAbs * (D / q.den) ≤ 1000 * 12 := Nat.mul_le_mul h2 h3
  exact Nat.le_trans (dig_of_lt (k := 5) (by omega) (by omega)) (by omega)
theorem nice12 {A : List (List Rat)} (hl : A.length ≤ 4) (hr : ∀ r ∈ A, r.length = A.length) (ht : ∀ r ∈ A, ∀ q ∈ r, Tw q) (hs : SymM A) : Nice A 12 :=
 ⟨⟨by omega, hr, fun r hr q hq => (ht r hr q hq).tx⟩, hs, hl, by omega, fun r hr q hq => (ht r hr q hq).sz, 12, 100, by omega, light12 ht⟩
theorem niceX12 {x : Rat} (h : Tw x) (n : Nat) : NiceX x n 12 := by
 refine ⟨h.tx, h.sz, 12, 100, by omega, light12 fun r hr q hq => ?_⟩
 simp only [List.map_replicate] at hr
 have := List.eq_of_mem_replicate hr
 subst this
 simp at hq; subst hq; exact h
theorem ratT_two : ratT 2 = [50] := by
 have : ratT ((2 : Int) : Rat) = Lib.itoa 2 := ratT_int 2
 rw [show ((2 : Int) : Rat) = 2 from by decide] at this
 rw [this, itoa_nonneg (by omega)]; exact Lib.decDigits_one (by omega)
theorem ratT_three : ratT 3 = [51] := by
 have : ratT ((3 : Int) : Rat) = Lib.itoa 3 := ratT_int 3
 rw [show ((3 : Int) : Rat) = 3 from by decide] at this
 rw [this, itoa_nonneg (by omega)]; exact Lib.decDigits_one (by omega)
theorem ratT_m4 : ratT (-4) = [45, 52] := by
 have : ratT ((-4 : Int) : Rat) = Lib.itoa (-4) := ratT_int (-4)
 rw [show ((-4 : Int) : Rat) = -4 from by decide] at this
 rw [this, itoa_signed, show decide ((-4 : Int) < 0) = true from rfl, show (-4 : Int).natAbs = 4 from rfl, Lib.decDigits_one (by omega)]; rfl
theorem mat2 {u : PH} {g g1 g2 : Nat} {t1 t2 : List (List UInt8)} (h : ElsP u g 0 1 [.slice (some ⟨g1, 0, none⟩) 2 2, .slice (some ⟨g2, 0, none⟩) 2 2]) (h1 : ElsP u g1 0 1 (strsV t1)) (h2 : ElsP u g2 0 1 (strsV t2)) (e1 : t1.length = 2) (e2 : t2.length = 2) :
  MatP u (.slice (some ⟨g, 0, none⟩) 2 2) [t1, t2] := by
 refine ⟨_, ⟨_, 2, rfl, Nat.le_refl _, fun j e hj => ⟨g, 0, rfl, h j e hj⟩⟩, rfl, fun j r hj => ?_⟩
 match j, hj with
 | 0, hj =>
  simp at hj; subst hj
  exact ⟨some ⟨g1, 0, none⟩, 2, by rw [e1]; rfl, ⟨_, 2, by rw [strsV_length], by rw [strsV_length, e1]; exact Nat.le_refl _, fun j e hj => ⟨g1, 0, rfl, h1 j e hj⟩⟩⟩
 | 1, hj =>
  simp at hj; subst hj
  exact ⟨some ⟨g2, 0, none⟩, 2, by rw [e2]; rfl, ⟨_, 2, by rw [strsV_length], by rw [strsV_length, e2]; exact Nat.le_refl _, fun j e hj => ⟨g2, 0, rfl, h2 j e hj⟩⟩⟩
def A1 : List (List Rat) := [[2, 1], [1, 2]]
def A2 : List (List Rat) := [[1, 0], [0, 1]]
def twB (q : Rat) : Bool := decide (q.den ∣ 12) && decide (q.num.natAbs ≤ 1000)
theorem twB_spec {q : Rat} (h : twB q = true) : Tw q := by
 simp only [twB, Bool.and_eq_true, decide_eq_true_eq] at h
 exact ⟨h.1, h.2⟩
theorem sym2 (a b c : Rat) : SymM [[a, b], [b, c]] := by
 intro i k hi hk h1 h2
 match i, k, hi, hk with
 | 0, 0, _, _ => rfl
 | 0, 1, _, _ => rfl
 | 1, 0, _, _ => rfl
 | 1, 1, _, _ => rfl
theorem niceA1 : Nice A1 12 := by
 refine nice12 (by decide) (by decide) (fun r hr q hq => ?_) (sym2 2 1 2)
 have h : A1.all (fun r => r.all twB) = true := by decide +kernel
 rw [List.all_eq_true] at h
 have := h r hr
 rw [List.all_eq_true] at this
 exact twB_spec (this q hq)
theorem niceA2 : Nice A2 12 := by
 refine nice12 (by decide) (by decide) (fun r hr q hq => ?_) (sym2 1 0 1)
 have h : A2.all (fun r => r.all twB) = true := by decide +kernel
 rw [List.all_eq_true] at h
 have := h r hr
 rw [List.all_eq_true] at this
 exact twB_spec (this q hq)
theorem char_A1 : charL A1 = [3, -4, 1] := by decide +kernel
theorem txA1 : ∀ q ∈ charL A1, Tx q := (all_small (p := charL A1) (by decide +kernel)).1
theorem txA2 : ∀ q ∈ charL A2, Tx q := (all_small (p := charL A2) (by decide +kernel)).1
theorem sz_mil {p : List Rat} (h : p.all smallB = true) : SzL p 1000000 := (all_small h).2.mono (by omega)
theorem simA1 : SimP 5 (charL A1) := by
 have e1 : derL (charL A1) = [-4, 2] := by decide +kernel
 have e2 : remL (charL A1) [-4, 2] = [-1] := by decide +kernel
 have e3 : remL [-4, 2] [-1] = [] := by decide +kernel
 have e4 : simGo 5 (charL A1) (derL (charL A1)) = [-1] := by decide +kernel
 refine ⟨?_, by decide +kernel, by decide +kernel, sz_mil (by decide +kernel), by rw [e4]; simp, by rw [e4]; simp, by rw [e4]; exact sz_mil (by decide +kernel), by rw [e4]; decide +kernel⟩
 rw [e1]
 refine ⟨by decide +kernel, by decide +kernel, by decide +kernel, by decide, sz_mil (by decide +kernel), sz_mil (by decide +kernel), ?_⟩
 rw [e2]
 refine ⟨by decide +kernel, by simp, by decide, by decide, sz_mil (by decide +kernel), sz_mil (by decide +kernel), ?_⟩
 rw [e3]; exact trivial
theorem simA2 : SimP 5 (charL A2) := by
 have e1 : derL (charL A2) = [-2, 2] := by decide +kernel
 have e2 : remL (charL A2) [-2, 2] = [] := by decide +kernel
 have e4 : simGo 5 (charL A2) (derL (charL A2)) = [-2, 2] := by decide +kernel
 refine ⟨?_, by decide +kernel, by decide +kernel, sz_mil (by decide +kernel), by rw [e4]; simp, by rw [e4]; simp, by rw [e4]; exact sz_mil (by decide +kernel), by rw [e4]; decide +kernel⟩
 rw [e1]
 refine ⟨by decide +kernel, by decide +kernel, by decide +kernel, by decide, sz_mil (by decide +kernel), sz_mil (by decide +kernel), ?_⟩
 rw [e2]; exact trivial
def res1 : List (Rat × Rat × Int) := [(0, 5 / 4, 1), (5 / 2, 15 / 4, 1)]
def res2 : List (Rat × Rat × Int) := [(-2, 2, 2)]
theorem specA1 {u : PH} {v : Value} (ht : TabU u) (hm : MatP u v (matT A1)) : Fn0 Tryz.prog 24 [v, .int .i64 ((3 : Nat) : Int)] u fun v' u' => ∃ r, v' = .tuple #[r, .int .i64 0] ∧ SpecP u' r res1 :=
 spectrum0 (fS := 5) (F := 10) (fu := 100) ht hm niceA1 txA1 (by decide) (by omega) simA1 (by decide +kernel) (by decide +kernel) (by decide +kernel) ((all_small (p := simpL 5 (charL A1)) (by decide +kernel)).2.mono (by omega)) (by decide +kernel) (by decide +kernel) (by omega) (by decide +kernel)
theorem specA2 {u : PH} {v : Value} (ht : TabU u) (hm : MatP u v (matT A2)) : Fn0 Tryz.prog 24 [v, .int .i64 ((0 : Nat) : Int)] u fun v' u' => ∃ r, v' = .tuple #[r, .int .i64 0] ∧ SpecP u' r res2 :=
 spectrum0 (fS := 5) (F := 10) (fu := 100) ht hm niceA2 txA2 (by decide) (by omega) simA2 (by decide +kernel) (by decide +kernel) (by decide +kernel) ((all_small (p := simpL 5 (charL A2)) (by decide +kernel)).2.mono (by omega)) (by decide +kernel) (by decide +kernel) (by omega) (by decide +kernel)
theorem checkA1 {u : PH} {v r : Value} (ht : TabU u) (hm : MatP u v (matT A1)) (hr : SpecP u r res1) : Fn0 Tryz.prog 25 [v, r] u fun v' _ => v' = .bool true := by
 refine check0 ht hm niceA1 txA1 (by decide) (fun x hx => ?_) hr (by decide) (by decide +kernel)
 have h : res1.all (fun x => twB x.1 && twB x.2.1) = true := by decide +kernel
 rw [List.all_eq_true] at h
 have := h x hx
 rw [Bool.and_eq_true] at this
 exact ⟨niceX12 (twB_spec this.1) _, niceX12 (twB_spec this.2) _⟩
theorem SpecP.mono {u u' : PH} {v : Value} {res : List (Rat × Rat × Int)} (h : SpecP u v res) (hl : PH.le u u') : SpecP u' v res := by
 obtain ⟨a, c, a', c', h1, h2, h3⟩ := h; exact ⟨a, c, a', c', h1, h2.mono hl, h3.mono hl⟩
set_option maxHeartbeats 4000000 in
theorem sane0 {u : PH} (ht : TabU u) : Fn0 Tryz.prog 8 [] u fun v _ => v = .bool true := by
 refine Fn0.of Tryz.func8 (by kernel_rfl) (by kernel_rfl) ?_
 refine G.buildU 34 1 16 (.string (mkS [])) (strsV [[50], [49]]) (by kernel_rfl) (strsV_ok _) rfl (by omega) (by simp [strsV]) (by simp [strsV]) ?_
 intro g1 u1 l1 e1
 refine G.buildU 34 1 16 (.string (mkS [])) (strsV [[49], [50]]) (by kernel_rfl) (strsV_ok _) rfl (by omega) (by simp [strsV]) (by simp [strsV]) ?_
 intro g2 u2 l2 e2
 refine G.buildU 27 1 24 (.slice none 0 0) [.slice (some ⟨g1, 0, none⟩) 2 2, .slice (some ⟨g2, 0, none⟩) 2 2] (by kernel_rfl) (rows_ok (by intro e he; simp at he; rcases he with rfl | rfl <;> exact ⟨_, _, _, rfl⟩)) rfl (by omega) (by simp) (by simp) ?_
 intro g3 u3 l3 e3
 have hm : MatP u3 (.slice (some ⟨g3, 0, none⟩) 2 2) (matT A1) := by
  have h := mat2 e3 (e1.mono (l2.trans l3)) (e2.mono l3) rfl rfl
  have : matT A1 = [[[50], [49]], [[49], [50]]] := by simp [matT, A1, ratT_two, ratT_one]
  rw [this]; exact h
 have hl3 : PH.le u u3 := (l1.trans l2).trans l3
 refine G.call0 _ _ (by kernel_rfl) Tryz.call16 (polynomial0 (ht.mono hl3) hm niceA1 txA1) ?_
 rintro v4 u4 l4 ⟨r4, rfl, k4⟩
 have k4' := k4
 obtain ⟨a4, c4, rfl⟩ := ListP.opn k4
 have e4 : (strsV (List.map ratT (charL A1))).length = 3 := by rw [strsV_length, List.length_map, char_A1]; rfl
 rw [e4] at k4' ⊢
 have h3 : Tw 3 := twB_spec (by decide +kernel)
 have hb := belowM0 (x := 3) (ht.mono (hl3.trans l4)) (hm.mono l4) niceA1 (niceX12 h3 _) (by decide)
 rw [ratT_three] at hb
 refine G.call0 _ _ (by kernel_rfl) Tryz.call15 hb ?_
 rintro v5 u5 l5 rfl
 have hl5 : PH.le u u5 := (hl3.trans l4).trans l5
 refine G.call0 _ _ (by kernel_rfl) Tryz.call24 (specA1 (ht.mono hl5) (hm.mono (l4.trans l5))) ?_
 rintro v6 u6 l6 ⟨r6, rfl, k6⟩
 have k6' := k6
 obtain ⟨a6, c6, a6', c6', rfl, _, _⟩ := k6
 refine G.buildU 34 1 16 (.string (mkS [])) (strsV [[49], [48]]) (by kernel_rfl) (strsV_ok _) rfl (by omega) (by simp [strsV]) (by simp [strsV]) ?_
 intro g7 u7 l7 e7
 refine G.buildU 34 1 16 (.string (mkS [])) (strsV [[48], [49]]) (by kernel_rfl) (strsV_ok _) rfl (by omega) (by simp [strsV]) (by simp [strsV]) ?_
 intro g8 u8 l8 e8
 refine G.buildU 27 1 24 (.slice none 0 0) [.slice (some ⟨g7, 0, none⟩) 2 2, .slice (some ⟨g8, 0, none⟩) 2 2] (by kernel_rfl) (rows_ok (by intro e he; simp at he; rcases he with rfl | rfl <;> exact ⟨_, _, _, rfl⟩)) rfl (by omega) (by simp) (by simp) ?_
 intro g9 u9 l9 e9
 have hm2 : MatP u9 (.slice (some ⟨g9, 0, none⟩) 2 2) (matT A2) := by
  have h := mat2 e9 (e7.mono (l8.trans l9)) (e8.mono l9) rfl rfl
  have : matT A2 = [[[49], [48]], [[48], [49]]] := by simp [matT, A2, ratT_zero, ratT_one]
  rw [this]; exact h
 have hl9 : PH.le u u9 := ((hl5.trans l6).trans l7).trans (l8.trans l9)
 refine G.call0 _ _ (by kernel_rfl) Tryz.call24 (specA2 (ht.mono hl9) hm2) ?_
 rintro v10 u10 l10 ⟨r10, rfl, k10⟩
 obtain ⟨a10, c10, a10', c10', rfl, _, kM⟩ := k10
 refine G.eqlT 0 0 (by kernel_rfl) rfl ?_
 refine G.buildU 34 1 16 (.string (mkS [])) (strsV [[51], [45, 52], [49]]) (by kernel_rfl) (strsV_ok _) rfl (by omega) (by simp [strsV]) (by simp [strsV]) ?_
 intro g11 u11 l11 e11
 have hS : StrsP u11 (.slice (some ⟨g11, 0, none⟩) 3 3) [[51], [45, 52], [49]] := ⟨_, 3, rfl, Nat.le_refl _, fun j e hj => ⟨g11, 0, rfl, e11 j e hj⟩⟩
 have ht4 : ([3, -4, 1] : List Rat).map ratT = [[51], [45, 52], [49]] := by simp [ratT_three, ratT_m4, ratT_one]
 rw [char_A1, ht4] at k4'
 refine G.call0 _ _ (by kernel_rfl) Tryz.call35 (refSame0 (ListP.mono k4' ((((((l5.trans l6).trans l7).trans l8).trans l9).trans l10).trans l11)) hS (by simp) (by simp)) ?_
 rintro v12 u12 l12 rfl
 refine G.eqlT 0 0 (by kernel_rfl) rfl ?_
 refine G.eqlT (lessL (charL A1) 3) 1 (by kernel_rfl) (by decide +kernel) ?_
 refine G.eqlT (equalL (charL A1) 3 : Int) 1 (by kernel_rfl) (by decide +kernel) ?_
 refine G.eqlT 0 0 (by kernel_rfl) rfl ?_
 refine G.eqlT ((res1.length : Nat) : Int) 2 (by kernel_rfl) rfl ?_
 have hl12 : PH.le u6 u12 := ((((l7.trans l8).trans l9).trans l10).trans l11).trans l12
 refine G.call0 _ _ (by kernel_rfl) Tryz.call25 (checkA1 (ht.mono ((hl5.trans l6).trans hl12)) (hm.mono (((l4.trans l5).trans l6).trans hl12)) (SpecP.mono k6' hl12)) ?_
 rintro v13 u13 l13 rfl
 refine G.eqlT 0 0 (by kernel_rfl) rfl ?_
 refine G.eqlT ((res2.length : Nat) : Int) 1 (by kernel_rfl) rfl ?_
 obtain ⟨b14, o14, rfl, e14⟩ := ListP.at' (ListP.mono kM ((l11.trans l12).trans l13)) (j := 0) (e := .int .i64 2) rfl
 refine G.addr b14 o14 1 c10' 0 1 (by kernel_rfl) (by omega) ?_
 refine G.loadU none b14 (o14 + 0 * 1) (.int .i64 2) (by kernel_rfl) (by kernel_rfl) e14 ?_
 refine G.eqlT 2 2 (by kernel_rfl) rfl ?_
 exact G.ret (.bool true) (by kernel_rfl) ⟨rfl, rfl⟩
end Go.Proofs.YtldokelpolbnnaaGreatDoor
end
section
set_option linter.unusedSectionVars false
set_option linter.unusedVariables false
namespace Go.Proofs.YtldokelpolbnnaaGreatDoor
open Go.RowKit
def T12 (q : Rat) (N : Nat) : Prop := ∃ k : Int, q = Rat.divInt k 12 ∧ k.natAbs ≤ N
theorem T12.tw {q : Rat} {N : Nat} (h : T12 q N) (hN : N ≤ 1000) : Tw q := by
 obtain ⟨k, rfl, hk⟩ := h
 obtain ⟨e1, e2, e3⟩ := new_pos (y := k) (z := 12) (by omega)
 have hg : Nat.gcd k.natAbs 12 ∣ 12 := Nat.gcd_dvd_right _ _
 have hg0 : 0 < Nat.gcd k.natAbs 12 := Nat.gcd_pos_of_pos_right _ (by omega)
 have e2' : (Rat.divInt k 12).den = 12 / Nat.gcd k.natAbs 12 := by
  have h1 : ((Rat.divInt k 12).den : Int) = ((12 / Nat.gcd k.natAbs 12 : Nat) : Int) := by
   rw [e2, show (12 : Int).natAbs = 12 from rfl, Int.tdiv_eq_ediv_of_nonneg (by omega)]; rfl
  exact Int.ofNat.inj h1
 refine ⟨?_, ?_⟩
 ·rw [e2']; exact Nat.div_dvd_of_dvd hg
 ·rw [e1, Int.natAbs_tdiv]
  refine Nat.le_trans (Nat.div_le_self _ _) (by omega)
theorem T12.add {q r : Rat} {N K : Nat} (h : T12 q N) (h' : T12 r K) : T12 (q + r) (N + K) := by
 obtain ⟨k, rfl, hk⟩ := h
 obtain ⟨l, rfl, hl⟩ := h'
 refine ⟨k + l, ?_, by omega⟩
 rw [Rat.divInt_eq_div, Rat.divInt_eq_div, Rat.divInt_eq_div, Rat.intCast_add]
 grind
theorem SmR.t12 {q : Rat} (h : SmR q) : T12 q 108 := by
 obtain ⟨c, hc⟩ := h.den
 refine ⟨q.num * (c : Int), ?_, ?_⟩
 ·have hd := q.den_pos
  have hc0 : c ≠ 0 := fun e => by rw [e] at hc; simp at hc
  have h1 : (12 : Int) = (q.den : Int) * (c : Int) := by rw [← Int.natCast_mul, ← hc]; rfl
  rw [h1, Rat.divInt_mul_right (by omega), Rat.num_divInt_den]
 ·have h1 := h.num
  have h2 : c ≤ 12 := by
   have hd := q.den_pos
   have : 1 * c ≤ q.den * c := Nat.mul_le_mul_right _ hd
   omega
  rw [Int.natAbs_mul, Int.natAbs_natCast]
  have : q.num.natAbs * c ≤ 9 * 12 := Nat.mul_le_mul h1 h2
  omega
theorem SmR.tw {q : Rat} (h : SmR q) : Tw q := h.t12.tw (by omega)
theorem t12_zero : Tw 0 := ⟨by decide, by decide⟩
theorem gR_rng {n : Nat} (f : Nat → Rat) {j : Nat} (hj : j < n) : gR ((List.range n).map f) j = f j := by
 unfold gR
 rw [List.getD_eq_getElem?_getD, List.getElem?_map, List.getElem?_range hj]; rfl
def mvM (m : Rat) (B : List (List Rat)) : List (List Rat) := (List.range B.length).map fun i => (gM B i).set i (gR (gM B i) i + m)
theorem mvM_length (m : Rat) (B : List (List Rat)) : (mvM m B).length = B.length := by simp [mvM]
theorem gM_mv {m : Rat} {B : List (List Rat)} {i : Nat} (hi : i < B.length) : gM (mvM m B) i = (gM B i).set i (gR (gM B i) i + m) := by
 unfold mvM
 conv => lhs; unfold gM
 rw [List.getD_eq_getElem?_getD, List.getElem?_map, List.getElem?_range hi]; rfl
theorem mv_mov (m : Rat) (B : List (List Rat)) (n : Nat) (hB : SqN n B) (h0 : n ≠ 0) (h : n ≤ 3) : mvM m B = movM m B := by
 match n, h0, h with
 | 1, _, _ =>
  obtain ⟨a, rfl⟩ := sq1 hB
  rw [mov1]; simp [mvM, gM, gR]
 | 2, _, _ =>
  obtain ⟨a, b, c, d, rfl⟩ := sq2 hB
  rw [mov2]; simp [mvM, gM, gR, List.range_succ]
 | 3, _, _ =>
  obtain ⟨a, b, c, d, e, f, g, h, i, rfl⟩ := sq3 hB
  rw [mov3]; simp [mvM, gM, gR, List.range_succ]
theorem thin_sq {B : List (List Rat)} {n : Nat} (hl : B.length = n) (h : ThinOK B n) : SqN n B := ⟨hl, fun r hr => by
 obtain ⟨i, hi, rfl⟩ := List.mem_iff_getElem.1 hr
 rw [← gM_at hi]; exact (h i hi).1⟩
theorem niceThin {B : List (List Rat)} {n : Nat} (hl : B.length = n) (h4 : n ≤ 4) (h : ThinOK B n) (hs : ∀ i j, j < i → i < n → gR (gM B i) j = gR (gM B j) i) : Nice B 12 := by
 subst hl
 refine nice12 h4 (thin_sq rfl h).2 (fun r hr q hq => ?_) (fun i k hi hk h1 h2 => ?_)
 ·obtain ⟨i, hi, rfl⟩ := List.mem_iff_getElem.1 hr
  rw [← gM_at hi] at hq
  exact ((h i hi).2 q hq).smR.tw
 ·have e : ∀ i k (hi : i < B.length) (h1 : k < B[i].length), B[i][k] = gR (gM B i) k := fun i k hi h1 => by rw [← gR_at h1, gM_at hi]
  rw [e i k hi h1, e k i hk h2]
  rcases Nat.lt_trichotomy i k with hlt | rfl | hlt
  ·exact (hs k i hlt hk).symm
  ·rfl
  ·exact hs i k hlt hi
theorem niceMoved {B : List (List Rat)} {m : Rat} {n : Nat} (hl : B.length = n) (h4 : n ≤ 4) (h : ThinOK B n) (hs : ∀ i j, j < i → i < n → gR (gM B i) j = gR (gM B j) i) (hm : SmR m) : Nice (mvM m B) 12 := by
 subst hl
 have hlen : ∀ i, i < B.length → (gM (mvM m B) i).length = B.length := fun i hi => by rw [gM_mv hi, List.length_set, (h i hi).1]
 refine nice12 (by rw [mvM_length]; exact h4) (fun r hr => ?_) (fun r hr q hq => ?_) (fun i k hi hk h1 h2 => ?_)
 ·obtain ⟨i, hi, rfl⟩ := List.mem_iff_getElem.1 hr
  rw [mvM_length] at hi ⊢
  rw [← gM_at (by rw [mvM_length]; exact hi)]; exact hlen i hi
 ·obtain ⟨i, hi, rfl⟩ := List.mem_iff_getElem.1 hr
  rw [mvM_length] at hi
  rw [← gM_at (by rw [mvM_length]; exact hi), gM_mv hi] at hq
  rcases List.mem_or_eq_of_mem_set hq with hq | rfl
  ·exact ((h i hi).2 q hq).smR.tw
  ·exact (((h i hi).2 _ (gR_mem (by rw [(h i hi).1]; exact hi))).smR.t12.add hm.t12).tw (by omega)
 ·rw [mvM_length] at hi hk
  have e : ∀ i k (hi : i < (mvM m B).length) (h1 : k < (mvM m B)[i].length), (mvM m B)[i][k] = gR (gM (mvM m B) i) k := fun i k hi h1 => by rw [← gR_at h1, gM_at hi]
  rw [e i k _ h1, e k i _ h2, gM_mv hi, gM_mv hk, gR_set (by rw [(h i hi).1]; exact hi), gR_set (by rw [(h k hk).1]; exact hk)]
  by_cases e : i = k
  ·subst e; rfl
  ·rw [if_neg e, if_neg (fun h => e h.symm)]
   rcases Nat.lt_or_ge k i with hlt | hge
   ·exact hs i k hlt hi
   ·exact (hs k i (by omega) hk).symm
theorem matOfBag {ma u : PH} {a : Option Addr} {n c : Nat} {rows : List (Value × List Value)} {M : List (List Rat)} (hL : Bag ma (omA (.slice a n c) rows :: rows.map sRow)) (hS : SAt rows M) (hm : PH.le ma u) : MatP u (.slice a n c) (matT M) := by
 refine ⟨rows.map (fun r : Value × List Value => r.1), hL.list hm 0 rfl, ?_, fun x r hx => ?_⟩
 ·simp [matT, hS.1]
 ·have hxl : x < M.length := by
   rcases Nat.lt_or_ge x M.length with h' | h'
   ·exact h'
   ·rw [List.getElem?_eq_none (by simpa [matT] using h')] at hx; cases hx
  have hxr : x < rows.length := by rw [hS.1]; exact hxl
  have hrx : rows[x]? = some rows[x] := List.getElem?_eq_getElem hxr
  have hcx := hS.2 x _ hrx
  have hrm : r = (gM M x).map ratT := by
   rw [matT, List.getElem?_map, List.getElem?_eq_getElem hxl] at hx
   simp at hx; rw [← hx, gM_at hxl]
  subst hrm
  have hlp := hL.list hm (x + 1) (x := sRow rows[x]) (by simp [hrx])
  simp only [sRow] at hlp
  rw [hcx] at hlp
  obtain ⟨ax, cx, ex⟩ := hlp.opn
  rw [strsV_length] at ex
  refine ⟨ax, cx, ?_, ?_⟩
  ·rw [List.getElem?_map, hrx, ← ex]; rfl
  ·rw [← ex]; exact hlp
end Go.Proofs.YtldokelpolbnnaaGreatDoor
end
section
set_option linter.unusedVariables false
set_option linter.unusedSimpArgs false
namespace Go.Proofs.YtldokelpolbnnaaGreatDoor
def dtm : Nat → (Nat → Nat → Rat) → Rat
 | 0, _ => 1
 | 1, e => e 0 0
 | 2, e => e 0 0 * e 1 1 - e 0 1 * e 1 0
 | 3, e => e 0 0 * (e 1 1 * e 2 2 - e 1 2 * e 2 1) - e 0 1 * (e 1 0 * e 2 2 - e 1 2 * e 2 0) + e 0 2 * (e 1 0 * e 2 1 - e 1 1 * e 2 0)
 | 4, e =>
  e 0 0 * (e 1 1 * (e 2 2 * e 3 3 - e 2 3 * e 3 2) - e 1 2 * (e 2 1 * e 3 3 - e 2 3 * e 3 1) + e 1 3 * (e 2 1 * e 3 2 - e 2 2 * e 3 1))
  - e 0 1 * (e 1 0 * (e 2 2 * e 3 3 - e 2 3 * e 3 2) - e 1 2 * (e 2 0 * e 3 3 - e 2 3 * e 3 0) + e 1 3 * (e 2 0 * e 3 2 - e 2 2 * e 3 0))
  + e 0 2 * (e 1 0 * (e 2 1 * e 3 3 - e 2 3 * e 3 1) - e 1 1 * (e 2 0 * e 3 3 - e 2 3 * e 3 0) + e 1 3 * (e 2 0 * e 3 1 - e 2 1 * e 3 0))
  - e 0 3 * (e 1 0 * (e 2 1 * e 3 2 - e 2 2 * e 3 1) - e 1 1 * (e 2 0 * e 3 2 - e 2 2 * e 3 0) + e 1 2 * (e 2 0 * e 3 1 - e 2 1 * e 3 0))
 | _, _ => 0
theorem lt4 {n r : Nat} (hn : n ≤ 4) (hr : r < n) : (n = 1 ∨ n = 2 ∨ n = 3 ∨ n = 4) ∧ (r = 0 ∨ r = 1 ∨ r = 2 ∨ r = 3) := by omega
theorem dtm_congr {n : Nat} (hn : n ≤ 4) (e e' : Nat → Nat → Rat) (h : ∀ i j, i < n → j < n → e i j = e' i j) : dtm n e = dtm n e' := by
 have : n = 0 ∨ n = 1 ∨ n = 2 ∨ n = 3 ∨ n = 4 := by omega
 rcases this with rfl | rfl | rfl | rfl | rfl <;> simp [dtm, h]
theorem dtm_scale {n r : Nat} (hn : n ≤ 4) (hr : r < n) (e : Nat → Nat → Rat) (s : Rat) : dtm n (fun i j => if i = r then e i j * s else e i j) = s * dtm n e := by
 obtain ⟨h1, h2⟩ := lt4 hn hr
 rcases h1 with rfl | rfl | rfl | rfl <;> rcases h2 with rfl | rfl | rfl | rfl <;> first | omega | (simp [dtm]; try grind)
theorem dtm_swap {n r p : Nat} (hn : n ≤ 4) (hr : r < n) (hp : p < n) (hne : p ≠ r) (e : Nat → Nat → Rat) : dtm n (fun i j => if i = r then e p j else if i = p then e r j else e i j) = - dtm n e := by
 obtain ⟨h1, h2⟩ := lt4 hn hr
 obtain ⟨_, h3⟩ := lt4 hn hp
 rcases h1 with rfl | rfl | rfl | rfl <;> rcases h2 with rfl | rfl | rfl | rfl <;> rcases h3 with rfl | rfl | rfl | rfl <;> first | omega | (simp [dtm]; grind)
theorem dtm_sub {n r p : Nat} (hn : n ≤ 4) (hr : r < n) (hp : p < n) (hne : p ≠ r) (e : Nat → Nat → Rat) (g : Rat) : dtm n (fun i j => if i = p then e i j - g * e r j else e i j) = dtm n e := by
 obtain ⟨h1, h2⟩ := lt4 hn hr
 obtain ⟨_, h3⟩ := lt4 hn hp
 rcases h1 with rfl | rfl | rfl | rfl <;> rcases h2 with rfl | rfl | rfl | rfl <;> rcases h3 with rfl | rfl | rfl | rfl <;> first | omega | (simp [dtm]; grind)
theorem dtm_id {n : Nat} (hn : n ≤ 4) : dtm n (fun i j => if i = j then 1 else 0) = 1 := by
 have : n = 0 ∨ n = 1 ∨ n = 2 ∨ n = 3 ∨ n = 4 := by omega
 rcases this with rfl | rfl | rfl | rfl | rfl <;> simp [dtm] <;> grind
theorem dtm_zero {n c : Nat} (hn : n ≤ 4) (hc : c < n) (e : Nat → Nat → Rat) (h1 : ∀ i j, i < n → j < c → e i j = if i = j then 1 else 0) (h2 : ∀ i, c ≤ i → i < n → e i c = 0) : dtm n e = 0 := by
 obtain ⟨h3, h4⟩ := lt4 hn hc
 rcases h3 with rfl | rfl | rfl | rfl <;> rcases h4 with rfl | rfl | rfl | rfl <;> first | omega | (simp [dtm, h1, h2]; try grind)
theorem diag4 (t a b c d e f g h i j k l m n o p : Rat) : diagGo t 4 0 [[a, b, c, d], [e, f, g, h], [i, j, k, l], [m, n, o, p]] = [[a + t, b, c, d], [e, f + t, g, h], [i, j, k + t, l], [m, n, o, p + t]] := by
 simp [diagGo, gR, gM]
theorem char4_1 (a b c d e f g h i j : Rat) : charL [[a, b, c, d], [b, e, f, g], [c, f, h, i], [d, g, i, j]] = charGo [[a, b, c, d], [b, e, f, g], [c, f, h, i], [d, g, i, j]] 4 3 2 [[a, b, c, d], [b, e, f, g], [c, f, h, i], [d, g, i, j]] [(-a - e - h - j), 1] := by
 show charGo _ 4 4 1 [[0, 0, 0, 0], [0, 0, 0, 0], [0, 0, 0, 0], [0, 0, 0, 0]] [1] = _
 rw [charGo, show gR [1] 0 = 1 from rfl, diag4]
 congr 1 <;> simp [nextGo, rowGo, sumGo, gR, gM] <;> grind
theorem char4_2 (a b c d e f g h i j : Rat) : charGo [[a, b, c, d], [b, e, f, g], [c, f, h, i], [d, g, i, j]] 4 3 2 [[a, b, c, d], [b, e, f, g], [c, f, h, i], [d, g, i, j]] [(-a - e - h - j), 1] = charGo [[a, b, c, d], [b, e, f, g], [c, f, h, i], [d, g, i, j]] 4 2 3 [[(a * a + b * b + c * c + d * d + (-a - e - h - j) * a), (a * b + b * e + c * f + d * g + (-a - e - h - j) * b), (a * c + b * f + c * h + d * i + (-a - e - h - j) * c), (a * d + b * g + c * i + d * j + (-a - e - h - j) * d)], [(b * a + e * b + f * c + g * d + (-a - e - h - j) * b), (b * b + e * e + f * f + g * g + (-a - e - h - j) * e), (b * c + e * f + f * h + g * i + (-a - e - h - j) * f), (b * d + e * g + f * i + g * j + (-a - e - h - j) * g)], [(c * a + f * b + h * c + i * d + (-a - e - h - j) * c), (c * b + f * e + h * f + i * g + (-a - e - h - j) * f), (c * c + f * f + h * h + i * i + (-a - e - h - j) * h), (c * d + f * g + h * i + i * j + (-a - e - h - j) * i)], [(d * a + g * b + i * c + j * d + (-a - e - h - j) * d), (d * b + g * e + i * f + j * g + (-a - e - h - j) * g), (d * c + g * f + i * h + j * i + (-a - e - h - j) * i), (d * d + g * g + i * i + j * j + (-a - e - h - j) * j)]] [(a * e - b * b + a * h - c * c + a * j - d * d + e * h - f * f + e * j - g * g + h * j - i * i), (-a - e - h - j), 1] := by
 rw [charGo, show gR [(-a - e - h - j), 1] 0 = (-a - e - h - j) from rfl, diag4]
 congr 1 <;> simp [nextGo, rowGo, sumGo, gR, gM] <;> grind
theorem char4_3 (a b c d e f g h i j : Rat) : charGo [[a, b, c, d], [b, e, f, g], [c, f, h, i], [d, g, i, j]] 4 2 3 [[(a * a + b * b + c * c + d * d + (-a - e - h - j) * a), (a * b + b * e + c * f + d * g + (-a - e - h - j) * b), (a * c + b * f + c * h + d * i + (-a - e - h - j) * c), (a * d + b * g + c * i + d * j + (-a - e - h - j) * d)], [(b * a + e * b + f * c + g * d + (-a - e - h - j) * b), (b * b + e * e + f * f + g * g + (-a - e - h - j) * e), (b * c + e * f + f * h + g * i + (-a - e - h - j) * f), (b * d + e * g + f * i + g * j + (-a - e - h - j) * g)], [(c * a + f * b + h * c + i * d + (-a - e - h - j) * c), (c * b + f * e + h * f + i * g + (-a - e - h - j) * f), (c * c + f * f + h * h + i * i + (-a - e - h - j) * h), (c * d + f * g + h * i + i * j + (-a - e - h - j) * i)], [(d * a + g * b + i * c + j * d + (-a - e - h - j) * d), (d * b + g * e + i * f + j * g + (-a - e - h - j) * g), (d * c + g * f + i * h + j * i + (-a - e - h - j) * i), (d * d + g * g + i * i + j * j + (-a - e - h - j) * j)]] [(a * e - b * b + a * h - c * c + a * j - d * d + e * h - f * f + e * j - g * g + h * j - i * i), (-a - e - h - j), 1] = charGo [[a, b, c, d], [b, e, f, g], [c, f, h, i], [d, g, i, j]] 4 1 4 [[(-(e * (h * j - i * i) - f * (f * j - i * g) + g * (f * i - h * g)) - (- (e * (h * j - i * i) - f * (f * j - i * g) + g * (f * i - h * g)) - (a * (h * j - i * i) - c * (c * j - i * d) + d * (c * i - h * d)) - (a * (e * j - g * g) - b * (b * j - g * d) + d * (b * g - e * d)) - (a * (e * h - f * f) - b * (b * h - f * c) + c * (b * f - e * c)))), (b * (h * j - i * i) - c * (f * j - i * g) + d * (f * i - h * g)), -(b * (f * j - g * i) - c * (e * j - g * g) + d * (e * i - f * g)), (b * (f * i - g * h) - c * (e * i - g * f) + d * (e * h - f * f))], [(b * (h * j - i * i) - f * (c * j - i * d) + g * (c * i - h * d)), (-(a * (h * j - i * i) - c * (c * j - i * d) + d * (c * i - h * d)) - (- (e * (h * j - i * i) - f * (f * j - i * g) + g * (f * i - h * g)) - (a * (h * j - i * i) - c * (c * j - i * d) + d * (c * i - h * d)) - (a * (e * j - g * g) - b * (b * j - g * d) + d * (b * g - e * d)) - (a * (e * h - f * f) - b * (b * h - f * c) + c * (b * f - e * c)))), (a * (f * j - g * i) - c * (b * j - g * d) + d * (b * i - f * d)), -(a * (f * i - g * h) - c * (b * i - g * c) + d * (b * h - f * c))], [-(b * (f * j - i * g) - e * (c * j - i * d) + g * (c * g - f * d)), (a * (f * j - i * g) - b * (c * j - i * d) + d * (c * g - f * d)), (-(a * (e * j - g * g) - b * (b * j - g * d) + d * (b * g - e * d)) - (- (e * (h * j - i * i) - f * (f * j - i * g) + g * (f * i - h * g)) - (a * (h * j - i * i) - c * (c * j - i * d) + d * (c * i - h * d)) - (a * (e * j - g * g) - b * (b * j - g * d) + d * (b * g - e * d)) - (a * (e * h - f * f) - b * (b * h - f * c) + c * (b * f - e * c)))), (a * (e * i - g * f) - b * (b * i - g * c) + d * (b * f - e * c))], [(b * (f * i - h * g) - e * (c * i - h * d) + f * (c * g - f * d)), -(a * (f * i - h * g) - b * (c * i - h * d) + c * (c * g - f * d)), (a * (e * i - f * g) - b * (b * i - f * d) + c * (b * g - e * d)), (-(a * (e * h - f * f) - b * (b * h - f * c) + c * (b * f - e * c)) - (- (e * (h * j - i * i) - f * (f * j - i * g) + g * (f * i - h * g)) - (a * (h * j - i * i) - c * (c * j - i * d) + d * (c * i - h * d)) - (a * (e * j - g * g) - b * (b * j - g * d) + d * (b * g - e * d)) - (a * (e * h - f * f) - b * (b * h - f * c) + c * (b * f - e * c))))]] [(- (e * (h * j - i * i) - f * (f * j - i * g) + g * (f * i - h * g)) - (a * (h * j - i * i) - c * (c * j - i * d) + d * (c * i - h * d)) - (a * (e * j - g * g) - b * (b * j - g * d) + d * (b * g - e * d)) - (a * (e * h - f * f) - b * (b * h - f * c) + c * (b * f - e * c))), (a * e - b * b + a * h - c * c + a * j - d * d + e * h - f * f + e * j - g * g + h * j - i * i), (-a - e - h - j), 1] := by
 rw [charGo, show gR [(a * e - b * b + a * h - c * c + a * j - d * d + e * h - f * f + e * j - g * g + h * j - i * i), (-a - e - h - j), 1] 0 = (a * e - b * b + a * h - c * c + a * j - d * d + e * h - f * f + e * j - g * g + h * j - i * i) from rfl, diag4]
 congr 1 <;> simp [nextGo, rowGo, sumGo, gR, gM] <;> grind
theorem char4_4 (a b c d e f g h i j : Rat) : charGo [[a, b, c, d], [b, e, f, g], [c, f, h, i], [d, g, i, j]] 4 1 4 [[(-(e * (h * j - i * i) - f * (f * j - i * g) + g * (f * i - h * g)) - (- (e * (h * j - i * i) - f * (f * j - i * g) + g * (f * i - h * g)) - (a * (h * j - i * i) - c * (c * j - i * d) + d * (c * i - h * d)) - (a * (e * j - g * g) - b * (b * j - g * d) + d * (b * g - e * d)) - (a * (e * h - f * f) - b * (b * h - f * c) + c * (b * f - e * c)))), (b * (h * j - i * i) - c * (f * j - i * g) + d * (f * i - h * g)), -(b * (f * j - g * i) - c * (e * j - g * g) + d * (e * i - f * g)), (b * (f * i - g * h) - c * (e * i - g * f) + d * (e * h - f * f))], [(b * (h * j - i * i) - f * (c * j - i * d) + g * (c * i - h * d)), (-(a * (h * j - i * i) - c * (c * j - i * d) + d * (c * i - h * d)) - (- (e * (h * j - i * i) - f * (f * j - i * g) + g * (f * i - h * g)) - (a * (h * j - i * i) - c * (c * j - i * d) + d * (c * i - h * d)) - (a * (e * j - g * g) - b * (b * j - g * d) + d * (b * g - e * d)) - (a * (e * h - f * f) - b * (b * h - f * c) + c * (b * f - e * c)))), (a * (f * j - g * i) - c * (b * j - g * d) + d * (b * i - f * d)), -(a * (f * i - g * h) - c * (b * i - g * c) + d * (b * h - f * c))], [-(b * (f * j - i * g) - e * (c * j - i * d) + g * (c * g - f * d)), (a * (f * j - i * g) - b * (c * j - i * d) + d * (c * g - f * d)), (-(a * (e * j - g * g) - b * (b * j - g * d) + d * (b * g - e * d)) - (- (e * (h * j - i * i) - f * (f * j - i * g) + g * (f * i - h * g)) - (a * (h * j - i * i) - c * (c * j - i * d) + d * (c * i - h * d)) - (a * (e * j - g * g) - b * (b * j - g * d) + d * (b * g - e * d)) - (a * (e * h - f * f) - b * (b * h - f * c) + c * (b * f - e * c)))), (a * (e * i - g * f) - b * (b * i - g * c) + d * (b * f - e * c))], [(b * (f * i - h * g) - e * (c * i - h * d) + f * (c * g - f * d)), -(a * (f * i - h * g) - b * (c * i - h * d) + c * (c * g - f * d)), (a * (e * i - f * g) - b * (b * i - f * d) + c * (b * g - e * d)), (-(a * (e * h - f * f) - b * (b * h - f * c) + c * (b * f - e * c)) - (- (e * (h * j - i * i) - f * (f * j - i * g) + g * (f * i - h * g)) - (a * (h * j - i * i) - c * (c * j - i * d) + d * (c * i - h * d)) - (a * (e * j - g * g) - b * (b * j - g * d) + d * (b * g - e * d)) - (a * (e * h - f * f) - b * (b * h - f * c) + c * (b * f - e * c))))]] [(- (e * (h * j - i * i) - f * (f * j - i * g) + g * (f * i - h * g)) - (a * (h * j - i * i) - c * (c * j - i * d) + d * (c * i - h * d)) - (a * (e * j - g * g) - b * (b * j - g * d) + d * (b * g - e * d)) - (a * (e * h - f * f) - b * (b * h - f * c) + c * (b * f - e * c))), (a * e - b * b + a * h - c * c + a * j - d * d + e * h - f * f + e * j - g * g + h * j - i * i), (-a - e - h - j), 1] = [dtm 4 (fun x y => gR (gM [[a, b, c, d], [b, e, f, g], [c, f, h, i], [d, g, i, j]] x) y), (- (e * (h * j - i * i) - f * (f * j - i * g) + g * (f * i - h * g)) - (a * (h * j - i * i) - c * (c * j - i * d) + d * (c * i - h * d)) - (a * (e * j - g * g) - b * (b * j - g * d) + d * (b * g - e * d)) - (a * (e * h - f * f) - b * (b * h - f * c) + c * (b * f - e * c))), (a * e - b * b + a * h - c * c + a * j - d * d + e * h - f * f + e * j - g * g + h * j - i * i), (-a - e - h - j), 1] := by
 rw [charGo, charGo, show gR [(- (e * (h * j - i * i) - f * (f * j - i * g) + g * (f * i - h * g)) - (a * (h * j - i * i) - c * (c * j - i * d) + d * (c * i - h * d)) - (a * (e * j - g * g) - b * (b * j - g * d) + d * (b * g - e * d)) - (a * (e * h - f * f) - b * (b * h - f * c) + c * (b * f - e * c))), (a * e - b * b + a * h - c * c + a * j - d * d + e * h - f * f + e * j - g * g + h * j - i * i), (-a - e - h - j), 1] 0 = (- (e * (h * j - i * i) - f * (f * j - i * g) + g * (f * i - h * g)) - (a * (h * j - i * i) - c * (c * j - i * d) + d * (c * i - h * d)) - (a * (e * j - g * g) - b * (b * j - g * d) + d * (b * g - e * d)) - (a * (e * h - f * f) - b * (b * h - f * c) + c * (b * f - e * c))) from rfl, diag4]
 congr 1
 simp [nextGo, rowGo, sumGo, gR, gM, dtm]; grind
def pivGo (X : List (List Rat)) (c : Nat) : Nat → Nat → Nat
 | 0, p => p
 | f + 1, p => if gR (gM X p) c = 0 then pivGo X c f (p + 1) else p
def swapL (X : List (List Rat)) (p r : Nat) : List (List Rat) := (X.set p (gM X r)).set r (gM X p)
def divR (f : Rat) (row : List Rat) : List Rat := row.map (· / f)
def subR (g : Rat) (R row : List Rat) : List Rat := (List.range row.length).map fun k => gR row k - g * gR R k
def clrGo (r c : Nat) : Nat → Nat → List (List Rat) → List (List Rat)
 | 0, _, X => X
 | f + 1, i, X => clrGo r c f (i + 1) (if i = r ∨ gR (gM X i) c = 0 then X else X.set i (subR (gR (gM X i) c) (gM X r) (gM X i)))
def normX (X : List (List Rat)) (r c : Nat) : List (List Rat) := X.set r (divR (gR (gM X r) c) (gM X r))
def stepX (X : List (List Rat)) (r c p : Nat) : List (List Rat) := clrGo r c X.length 0 (normX (if p = r then X else swapL X p r) r c)
def elimGo : Nat → Nat → List Nat → List (List Rat) → Rat → List Nat × List (List Rat) × Rat
 | 0, _, P, X, d => (P, X, d)
 | f + 1, c, P, X, d =>
  if P.length < X.length then
   if pivGo X c (X.length - P.length) P.length = X.length then elimGo f (c + 1) P X d
   else elimGo f (c + 1) (P ++ [c]) (stepX X P.length c (pivGo X c (X.length - P.length) P.length)) ((if pivGo X c (X.length - P.length) P.length = P.length then d else 0 - d) * gR (gM X (pivGo X c (X.length - P.length) P.length)) c)
  else (P, X, d)
def Rec (n w : Nat) (X : List (List Rat)) : Prop := X.length = n ∧ ∀ i, i < n → (gM X i).length = w
def en (X : List (List Rat)) (i j : Nat) : Rat := gR (gM X i) j
theorem pivGo_le (X : List (List Rat)) (c : Nat) : ∀ f p, p ≤ pivGo X c f p ∧ pivGo X c f p ≤ p + f
 | 0, p => by simp [pivGo]
 | f + 1, p => by
  unfold pivGo
  split
  ·have := pivGo_le X c f (p + 1); omega
  ·omega
theorem pivGo_zero (X : List (List Rat)) (c : Nat) : ∀ f p i, p ≤ i → i < pivGo X c f p → en X i c = 0
 | 0, p, i, h1, h2 => by simp [pivGo] at h2; omega
 | f + 1, p, i, h1, h2 => by
  unfold pivGo at h2
  split at h2
  ·rename_i h
   by_cases e : i = p
   ·subst e; exact h
   ·exact pivGo_zero X c f (p + 1) i (by omega) h2
  ·omega
theorem pivGo_ne (X : List (List Rat)) (c : Nat) : ∀ f p, pivGo X c f p < p + f → en X (pivGo X c f p) c ≠ 0
 | 0, p, h => by simp [pivGo] at h
 | f + 1, p, h => by
  unfold pivGo at h ⊢
  split at h
  ·rename_i h0
   rw [if_pos h0]
   exact pivGo_ne X c f (p + 1) (by omega)
  ·rename_i h0
   rw [if_neg h0]
   exact h0
theorem rec_set {n w i : Nat} {X : List (List Rat)} {r : List Rat} (h : Rec n w X) (hi : i < n) (hr : r.length = w) : Rec n w (X.set i r) := by
 refine ⟨by simp [h.1], fun j hj => ?_⟩
 rw [gM_set (by rw [h.1]; exact hi)]
 split
 ·exact hr
 ·exact h.2 j hj
theorem rec_swap {n w p r : Nat} {X : List (List Rat)} (h : Rec n w X) (hp : p < n) (hr : r < n) : Rec n w (swapL X p r) :=
 rec_set (rec_set h hp (h.2 r hr)) hr (h.2 p hp)
theorem en_swap {n w p r : Nat} {X : List (List Rat)} (h : Rec n w X) (hp : p < n) (hr : r < n) (i j : Nat) : en (swapL X p r) i j = if i = r then en X p j else if i = p then en X r j else en X i j := by
 unfold en swapL
 rw [gM_set (by simp [h.1]; exact hr), gM_set (by rw [h.1]; exact hp)]
 by_cases e : r = i
 ·rw [if_pos e, if_pos e.symm]
 ·rw [if_neg e, if_neg (show ¬ i = r by omega)]
  by_cases e' : p = i
  ·rw [if_pos e', if_pos e'.symm]
  ·rw [if_neg e', if_neg (show ¬ i = p by omega)]
theorem gR_div (f : Rat) (row : List Rat) (j : Nat) : gR (divR f row) j = gR row j / f := by
 unfold gR divR
 rw [List.getD_eq_getElem?_getD, List.getD_eq_getElem?_getD, List.getElem?_map]
 cases row[j]? <;> simp <;> grind
theorem gR_sub (g : Rat) (R row : List Rat) {j : Nat} (hj : j < row.length) : gR (subR g R row) j = gR row j - g * gR R j := by
 unfold subR; exact gR_rng _ hj
theorem rec_norm {n w r c : Nat} {X : List (List Rat)} (h : Rec n w X) (hr : r < n) : Rec n w (normX X r c) :=
 rec_set h hr (by simp [divR, h.2 r hr])
theorem en_norm {n w r c : Nat} {X : List (List Rat)} (h : Rec n w X) (hr : r < n) (i j : Nat) : en (normX X r c) i j = if i = r then en X i j * (1 / en X r c) else en X i j := by
 unfold en normX
 rw [gM_set (by rw [h.1]; exact hr)]
 by_cases e : r = i
 ·subst e
  rw [if_pos rfl, if_pos rfl, gR_div]
  grind
 ·rw [if_neg e, if_neg (fun e' => e e'.symm)]
theorem rec_clr {n w r c : Nat} (hr : r < n) : ∀ f i X, i + f ≤ n → Rec n w X → Rec n w (clrGo r c f i X)
 | 0, i, X, _, h => h
 | f + 1, i, X, hf, h => by
  unfold clrGo
  refine rec_clr hr f (i + 1) _ (by omega) ?_
  split
  ·exact h
  ·exact rec_set h (by omega) (by simp [subR, h.2 i (by omega)])
theorem en_clr1 {n w r c i : Nat} {X : List (List Rat)} (h : Rec n w X) (hi : i < n) (k j : Nat) (hj : j < w) : en (if i = r ∨ gR (gM X i) c = 0 then X else X.set i (subR (gR (gM X i) c) (gM X r) (gM X i))) k j = if k = i ∧ i ≠ r then en X i j - en X i c * en X r j else en X k j := by
 by_cases e : i = r
 ·rw [if_pos (.inl e), if_neg (by omega)]
 by_cases e0 : gR (gM X i) c = 0
 ·rw [if_pos (.inr e0)]
  split
  ·rename_i hk
   rw [hk.1]; unfold en; rw [e0]; grind
  ·rfl
 ·rw [if_neg (by simp [e, e0])]
  unfold en
  rw [gM_set (by rw [h.1]; exact hi)]
  by_cases ek : i = k
  ·subst ek
   rw [if_pos rfl, if_pos ⟨rfl, e⟩, gR_sub _ _ _ (by rw [h.2 i hi]; exact hj)]
  ·rw [if_neg ek, if_neg (by omega)]
theorem en_clr {n w r c : Nat} (hr : r < n) (hc : c < w) : ∀ f i X, i + f ≤ n → Rec n w X → ∀ k j, j < w → en (clrGo r c f i X) k j = if i ≤ k ∧ k < i + f ∧ k ≠ r then en X k j - en X k c * en X r j else en X k j
 | 0, i, X, _, h, k, j, hj => by rw [if_neg (by omega)]; rfl
 | f + 1, i, X, hf, h, k, j, hj => by
  unfold clrGo
  have hX : Rec n w (if i = r ∨ gR (gM X i) c = 0 then X else X.set i (subR (gR (gM X i) c) (gM X r) (gM X i))) := by
   split
   ·exact h
   ·exact rec_set h (by omega) (by simp [subR, h.2 i (by omega)])
  rw [en_clr hr hc f (i + 1) _ (by omega) hX k j hj, en_clr1 h (by omega) k j hj, en_clr1 h (by omega) k c hc, en_clr1 h (by omega) r j hj]
  rw [if_neg (show ¬ (r = i ∧ i ≠ r) by omega)]
  by_cases e1 : k = i
  ·subst e1
   rw [if_neg (by omega)]
   by_cases e2 : k = r
   ·rw [if_neg (by omega), if_neg (by omega)]
   ·rw [if_pos ⟨rfl, e2⟩, if_pos ⟨by omega, by omega, e2⟩]
  ·rw [if_neg (show ¬ (k = i ∧ i ≠ r) by omega), if_neg (show ¬ (k = i ∧ i ≠ r) by omega)]
   by_cases e2 : i + 1 ≤ k ∧ k < i + 1 + f ∧ k ≠ r
   ·rw [if_pos e2, if_pos ⟨by omega, by omega, e2.2.2⟩]
   ·rw [if_neg e2, if_neg (by omega)]
theorem dtm_clr {n r c : Nat} (hn : n ≤ 4) (hr : r < n) (hc : c < n) : ∀ f i X, i + f ≤ n → Rec n n X → dtm n (en (clrGo r c f i X)) = dtm n (en X)
 | 0, i, X, _, h => rfl
 | f + 1, i, X, hf, h => by
  unfold clrGo
  have hX : Rec n n (if i = r ∨ gR (gM X i) c = 0 then X else X.set i (subR (gR (gM X i) c) (gM X r) (gM X i))) := by
   split
   ·exact h
   ·exact rec_set h (by omega) (by simp [subR, h.2 i (by omega)])
  rw [dtm_clr hn hr hc f (i + 1) _ (by omega) hX]
  by_cases e : i = r
  ·rw [if_pos (.inl e)]
  ·rw [← dtm_sub hn hr (show i < n by omega) e (en X) (en X i c)]
   refine dtm_congr hn _ _ (fun k j hk hj => ?_)
   rw [en_clr1 h (by omega) k j hj]
   by_cases ek : k = i
   ·rw [if_pos ⟨ek, e⟩, if_pos ek, ek]
   ·rw [if_neg (by omega), if_neg ek]
theorem rec_step {n w r c p : Nat} {X : List (List Rat)} (h : Rec n w X) (hr : r < n) (hp : p < n) : Rec n w (stepX X r c p) := by
 unfold stepX
 rw [h.1]
 refine rec_clr hr n 0 _ (by omega) (rec_norm ?_ hr)
 split
 ·exact h
 ·exact rec_swap h hp hr
theorem dtm_step {n r c p : Nat} {X : List (List Rat)} (hn : n ≤ 4) (h : Rec n n X) (hr : r < n) (hp : p < n) (hc : c < n) (h0 : en X p c ≠ 0) (d : Rat) :
  ((if p = r then d else 0 - d) * en X p c) * dtm n (en (stepX X r c p)) = d * dtm n (en X) := by
 unfold stepX
 rw [h.1]
 have hY : Rec n n (if p = r then X else swapL X p r) := by
  split
  ·exact h
  ·exact rec_swap h hp hr
 have hYe : ∀ j, en (if p = r then X else swapL X p r) r j = en X p j := fun j => by
  split
  ·rename_i e; rw [e]
  ·rw [en_swap h hp hr, if_pos rfl]
 have hYd : dtm n (en (if p = r then X else swapL X p r)) = if p = r then dtm n (en X) else - dtm n (en X) := by
  split
  ·rfl
  ·rename_i e
   rw [← dtm_swap hn hr hp e]
   exact dtm_congr hn _ _ (fun i j _ _ => en_swap h hp hr i j)
 rw [dtm_clr hn hr hc n 0 _ (by omega) (rec_norm hY hr)]
 have hs : dtm n (en (normX (if p = r then X else swapL X p r) r c)) = (1 / en X p c) * dtm n (en (if p = r then X else swapL X p r)) := by
  rw [← dtm_scale hn hr]
  refine dtm_congr hn _ _ (fun i j _ _ => ?_)
  rw [en_norm hY hr, hYe]
 rw [hs, hYd]
 have e1 : en X p c * (1 / en X p c) = 1 := by grind
 generalize 1 / en X p c = q at *
 generalize en X p c = y at *
 generalize dtm n (en X) = D
 split
 ·rw [show d * y * (q * D) = d * D * (y * q) by grind, e1]; grind
 ·rw [show (0 - d) * y * (q * -D) = d * D * (y * q) by grind, e1]; grind
theorem unit_step {n r p : Nat} {X : List (List Rat)} (h : Rec n n X) (hr : r < n) (hp : p < n) (hrp : r ≤ p) (h0 : en X p r ≠ 0) (hu : ∀ i j, i < n → j < r → en X i j = if i = j then 1 else 0) :
  ∀ i j, i < n → j < r + 1 → en (stepX X r r p) i j = if i = j then 1 else 0 := by
 intro i j hi hj
 unfold stepX
 rw [h.1]
 have hY : Rec n n (if p = r then X else swapL X p r) := by
  split
  ·exact h
  ·exact rec_swap h hp hr
 have hYe : ∀ i j, en (if p = r then X else swapL X p r) i j = if i = r then en X p j else if i = p then en X r j else en X i j := fun i j => by
  split
  ·rename_i e
   subst e
   split
   ·rename_i e; rw [e]
   ·rfl
  ·rw [en_swap h hp hr]
 rw [en_clr hr (by omega) n 0 _ (by omega) (rec_norm hY hr) i j (by omega), en_norm hY hr i j, en_norm hY hr i r, en_norm hY hr r j, if_pos rfl, hYe i j, hYe i r, hYe r j, hYe r r, if_pos rfl, if_pos rfl]
 have e1 : en X p r * (1 / en X p r) = 1 := by grind
 generalize 1 / en X p r = q at *
 by_cases ei : i = r
 ·rw [if_neg (by omega), if_pos ei, if_pos ei]
  by_cases ej : j = r
  ·rw [ej, ei, if_pos rfl, e1]
  ·rw [hu p j hp (by omega), if_neg (by omega), if_neg (by omega)]; grind
 ·rw [if_pos ⟨by omega, by omega, ei⟩, if_neg ei, if_neg ei, if_neg ei, if_neg ei]
  by_cases ej : j = r
  ·subst ej
   rw [if_neg ei]
   generalize (if i = p then en X j j else en X i j) = t
   rw [show t - t * (en X p j * q) = t - t * (en X p j * q) from rfl, e1]; grind
  ·rw [hu p j hp (by omega), if_neg (show ¬ p = j by omega)]
   by_cases ep : i = p
   ·rw [if_pos ep, hu r j hr (by omega), if_neg (show ¬ r = j by omega), if_neg (show ¬ i = j by omega)]; grind
   ·rw [if_neg ep, hu i j hi (by omega)]; grind
theorem elim_len : ∀ f c P X d, (elimGo f c P X d).1.length ≤ P.length + f
 | 0, c, P, X, d => by simp [elimGo]
 | f + 1, c, P, X, d => by
  unfold elimGo
  split
  ·split
   ·have := elim_len f (c + 1) P X d; omega
   ·have := elim_len f (c + 1) (P ++ [c]) (stepX X P.length c (pivGo X c (X.length - P.length) P.length)) ((if pivGo X c (X.length - P.length) P.length = P.length then d else 0 - d) * gR (gM X (pivGo X c (X.length - P.length) P.length)) c)
    rw [List.length_append] at this
    simp at this ⊢
    omega
  ·simp
theorem elim_det {n : Nat} (hn : n ≤ 4) : ∀ f c P X d, c + f = n → P.length = c → Rec n n X → (∀ i j, i < n → j < c → en X i j = if i = j then 1 else 0) →
  d * dtm n (en X) = if (elimGo f c P X d).1.length < n then 0 else (elimGo f c P X d).2.2
 | 0, c, P, X, d, hc, hP, h, hu => by
  have e0 : elimGo 0 c P X d = (P, X, d) := rfl
  rw [e0, if_neg (show ¬ P.length < n by omega)]
  have : dtm n (en X) = 1 := by
   rw [← dtm_id hn]
   exact dtm_congr hn _ _ (fun i j hi hj => hu i j hi (by omega))
  rw [this]; grind
 | f + 1, c, P, X, d, hc, hP, h, hu => by
  unfold elimGo
  rw [if_pos (show P.length < X.length by rw [h.1]; omega)]
  obtain ⟨p1, p2⟩ := pivGo_le X c (X.length - P.length) P.length
  have p3 := pivGo_zero X c (X.length - P.length) P.length
  have p4 := pivGo_ne X c (X.length - P.length) P.length
  generalize pivGo X c (X.length - P.length) P.length = p at *
  have hX := h.1
  rw [hX] at p2 p4 ⊢
  subst hP
  by_cases e : p = n
  ·rw [if_pos e]
   have hl := elim_len f (P.length + 1) P X d
   rw [if_pos (by omega)]
   rw [dtm_zero hn (show P.length < n by omega) (en X) hu (fun i h1 h2 => p3 i h1 (by omega))]
   grind
  ·rw [if_neg e]
   have h0 := p4 (by omega)
   rw [← elim_det hn f (P.length + 1) (P ++ [P.length]) _ _ (by omega) (by simp) (rec_step h (by omega) (by omega)) (unit_step h (by omega) (by omega) (by omega) h0 hu)]
   exact (dtm_step hn h (by omega) (by omega) (by omega) h0 d).symm
end Go.Proofs.YtldokelpolbnnaaGreatDoor
end
section
set_option linter.unusedSectionVars false
set_option linter.unusedVariables false
namespace Go.Proofs.YtldokelpolbnnaaGreatDoor
open Go.RowKit
def trGo (A : List (List Rat)) : Nat → Nat → Rat → Rat
 | 0, _, s => s
 | f + 1, i, s => trGo A f (i + 1) (s + gR (gM A i) i)
def trL (A : List (List Rat)) : Rat := trGo A A.length 0 0
set_option maxHeartbeats 4000000 in
theorem refShape0 {u : PH} {v : Value} {A : List (List Rat)} (h : MatP u v (matT A)) (hs : Sq A) : Fn0 Tryz.prog 67 [v] u fun v' _ => v' = .tuple #[.int .i64 (A.length : Int), .int .i64 (A.length : Int), .int .i64 0] := by
 obtain ⟨a, c, rfl⟩ := h.opn
 rw [matT_length] at h ⊢
 have hle := hs.le
 refine Fn0.of Tryz.func67 (by kernel_rfl) (by kernel_rfl) ?_
 by_cases h0 : 0 < A.length
 ·refine G.gtrT (A.length : Int) 0 (by kernel_rfl) (by omega) ?_
  obtain ⟨b1, o1, a1, c1, rfl, e1, e2⟩ := h.row (matT_at (List.getElem?_eq_getElem h0))
  rw [List.length_map, hs.len h0] at e1 e2
  refine G.addr b1 o1 A.length c 0 1 (by kernel_rfl) h0 ?_
  refine G.loadU none b1 (o1 + 0 * 1) _ (by kernel_rfl) (by kernel_rfl) e1 ?_
  clear e1 e2
  obtain ⟨a, ha⟩ : ∃ a : Option Addr, a = some ⟨b1, o1, none⟩ := ⟨_, rfl⟩
  rw [← ha] at h ⊢
  clear ha
  refine G.gtrF (A.length : Int) 12 (by kernel_rfl) (by omega) ?_
  refine G.loop (ι := Nat) (fun i => [(0, .v (.slice a A.length c)), (5, .v (.int .i64 (A.length : Int))), (21, .v (.int .i64 (A.length : Int))), (22, .v (.int .i64 (i : Int)))]) (fun _ => [])
   (fun i u' m' => i ≤ A.length ∧ m' = PH.mt) (fun i => A.length - i) 0 (by kernel_rfl) (fun _ => by kernel_rfl) ⟨by kernel_rfl, by kernel_rfl, by kernel_rfl⟩ ⟨by omega, rfl⟩ ?_
  rintro J1 i hJ1 u1 m1 l1 ⟨hi, rfl⟩
  by_cases hlt : i < A.length
  ·refine G.lssT (i : Int) (A.length : Int) (by kernel_rfl) (by omega) ?_
   obtain ⟨b1, o1, a1, c1, rfl, e1, e2⟩ := (h.mono l1).row (matT_at (List.getElem?_eq_getElem hlt))
   rw [List.length_map, hs.len hlt] at e1 e2
   refine G.addr b1 o1 A.length c i 1 (by kernel_rfl) hlt ?_
   refine G.loadU none b1 (o1 + i * 1) _ (by kernel_rfl) (by kernel_rfl) e1 ?_
   refine G.gtrF (A.length : Int) 12 (by kernel_rfl) (by omega) ?_
   refine G.add (i : Int) 1 ((i + 1 : Nat) : Int) (by kernel_rfl) (by omega) (by omega) (by omega) ?_
   exact G.back (by kernel_rfl) (hJ1 (i + 1) _ _ _ ⟨by kernel_rfl, by kernel_rfl, by kernel_rfl⟩ l1 ⟨by omega, rfl⟩ (by omega))
  obtain rfl : i = A.length := by omega
  clear hlt
  refine G.lssF (A.length : Int) (A.length : Int) (by kernel_rfl) (by omega) ?_
  clear hJ1
  refine G.loop (ι := Nat) (fun i => [(0, .v (.slice a A.length c)), (5, .v (.int .i64 (A.length : Int))), (33, .v (.int .i64 (A.length : Int))), (34, .v (.int .i64 (i : Int)))]) (fun _ => [])
   (fun i u' m' => i ≤ A.length ∧ m' = PH.mt) (fun i => A.length - i) 0 (by kernel_rfl) (fun _ => by kernel_rfl) ⟨by kernel_rfl, by kernel_rfl, by kernel_rfl⟩ ⟨by omega, rfl⟩ ?_
  rintro J2 i hJ2 u2 m2 l2 ⟨hi, rfl⟩
  by_cases hlt : i < A.length
  ·refine G.lssT (i : Int) (A.length : Int) (by kernel_rfl) (by omega) ?_
   obtain ⟨b1, o1, a1, c1, rfl, e1, e2⟩ := (h.mono (l1.trans l2)).row (matT_at (List.getElem?_eq_getElem hlt))
   rw [List.length_map, hs.len hlt] at e1 e2
   refine G.addr b1 o1 A.length c i 1 (by kernel_rfl) hlt ?_
   refine G.loadU none b1 (o1 + i * 1) _ (by kernel_rfl) (by kernel_rfl) e1 ?_
   refine G.neqF (A.length : Int) (A.length : Int) (by kernel_rfl) (by omega) ?_
   refine G.add (i : Int) 1 ((i + 1 : Nat) : Int) (by kernel_rfl) (by omega) (by omega) (by omega) ?_
   exact G.back (by kernel_rfl) (hJ2 (i + 1) _ _ _ ⟨by kernel_rfl, by kernel_rfl, by kernel_rfl⟩ l2 ⟨by omega, rfl⟩ (by omega))
  obtain rfl : i = A.length := by omega
  clear hlt
  refine G.lssF (A.length : Int) (A.length : Int) (by kernel_rfl) (by omega) ?_
  clear hJ2
  refine G.loop (ι := Nat) (fun i => [(0, .v (.slice a A.length c)), (5, .v (.int .i64 (A.length : Int))), (46, .v (.int .i64 (A.length : Int))), (47, .v (.int .i64 (i : Int)))]) (fun _ => [])
   (fun i u' m' => i ≤ A.length ∧ m' = PH.mt) (fun i => A.length - i) 0 (by kernel_rfl) (fun _ => by kernel_rfl) ⟨by kernel_rfl, by kernel_rfl, by kernel_rfl⟩ ⟨by omega, rfl⟩ ?_
  rintro J3 i hJ3 u3 m3 l3 ⟨hi, rfl⟩
  by_cases hlt : i < A.length
  ·refine G.lssT (i : Int) (A.length : Int) (by kernel_rfl) (by omega) ?_
   obtain ⟨b1, o1, a1, c1, rfl, e1, e2⟩ := (h.mono ((l1.trans l2).trans l3)).row (matT_at (List.getElem?_eq_getElem hlt))
   rw [List.length_map, hs.len hlt] at e1 e2
   refine G.addr b1 o1 A.length c i 1 (by kernel_rfl) hlt ?_
   refine G.loadU none b1 (o1 + i * 1) _ (by kernel_rfl) (by kernel_rfl) e1 ?_
   refine G.loop (ι := Nat) (fun k => [(0, .v (.slice (some ⟨b1, o1, none⟩) A.length c)), (5, .v (.int .i64 (A.length : Int))), (46, .v (.int .i64 (A.length : Int))), (47, .v (.int .i64 (i : Int))), (8, .v (.int .i64 (i : Int))), (54, .v (.int .i64 (A.length : Int))), (55, .v (.int .i64 (k : Int)))]) (fun _ => [])
    (fun k u' m' => k ≤ A.length ∧ m' = PH.mt) (fun k => A.length - k) 0 (by kernel_rfl) (fun _ => by kernel_rfl) ⟨by kernel_rfl, by kernel_rfl, by kernel_rfl⟩ ⟨by omega, rfl⟩ ?_
   rintro J4 k hJ4 u4 m4 l4 ⟨hk, rfl⟩
   by_cases hlk : k < A.length
   ·refine G.lssT (k : Int) (A.length : Int) (by kernel_rfl) (by omega) ?_
    have hki : k < A[i].length := by rw [hs.len hlt]; exact hlk
    obtain ⟨b2, o2, rfl, e3⟩ := ListP.at' (ListP.mono e2 l4) (j := k) (e := .string (mkS (ratT A[i][k]))) (by simp [strsV, List.getElem?_eq_getElem hki])
    refine G.addr b1 o1 A.length c i 1 (by kernel_rfl) hlt ?_
    refine G.loadU none b1 (o1 + i * 1) _ (by kernel_rfl) (by kernel_rfl) (e1.mono l4) ?_
    refine G.addr b2 o2 A.length c1 k 1 (by kernel_rfl) hlk ?_
    refine G.loadU none b2 (o2 + k * 1) _ (by kernel_rfl) (by kernel_rfl) e3 ?_
    refine G.call0 _ _ (by kernel_rfl) Tryz.call26 (refValid0 (hs.tx' hlt hki)) ?_
    rintro v5 u5 l5 rfl
    refine G.add (k : Int) 1 ((k + 1 : Nat) : Int) (by kernel_rfl) (by omega) (by omega) (by omega) ?_
    exact G.back (by kernel_rfl) (hJ4 (k + 1) _ _ _ ⟨by kernel_rfl, by kernel_rfl, by kernel_rfl⟩ (l4.trans l5) ⟨by omega, rfl⟩ (by omega))
   ·refine G.lssF (k : Int) (A.length : Int) (by kernel_rfl) (by omega) ?_
    refine G.add (i : Int) 1 ((i + 1 : Nat) : Int) (by kernel_rfl) (by omega) (by omega) (by omega) ?_
    exact G.back (by kernel_rfl) (hJ3 (i + 1) _ _ _ ⟨by kernel_rfl, by kernel_rfl, by kernel_rfl⟩ (l3.trans l4) ⟨by omega, rfl⟩ (by omega))
  ·refine G.lssF (i : Int) (A.length : Int) (by kernel_rfl) (by omega) ?_
   exact G.ret (.tuple #[.int .i64 (A.length : Int), .int .i64 (A.length : Int), .int .i64 0]) (by kernel_rfl) ⟨rfl, rfl⟩
 ·refine G.gtrF (A.length : Int) 0 (by kernel_rfl) (by omega) ?_
  have hz : (A.length : Int) = 0 := by omega
  refine G.gtrF (A.length : Int) 12 (by kernel_rfl) (by omega) ?_
  refine G.loop (ι := Nat) (fun i => [(0, .v (.slice a A.length c)), (5, .v (.int .i64 0)), (21, .v (.int .i64 (A.length : Int))), (22, .v (.int .i64 (i : Int)))]) (fun _ => [])
   (fun i u' m' => i ≤ A.length ∧ m' = PH.mt) (fun i => A.length - i) 0 (by kernel_rfl) (fun _ => by kernel_rfl) ⟨by kernel_rfl, by kernel_rfl, by kernel_rfl⟩ ⟨by omega, rfl⟩ ?_
  rintro J1 i hJ1 u1 m1 l1 ⟨hi, rfl⟩
  by_cases hlt : i < A.length
  ·refine G.lssT (i : Int) (A.length : Int) (by kernel_rfl) (by omega) ?_
   obtain ⟨b1, o1, a1, c1, rfl, e1, e2⟩ := (h.mono l1).row (matT_at (List.getElem?_eq_getElem hlt))
   rw [List.length_map, hs.len hlt] at e1 e2
   refine G.addr b1 o1 A.length c i 1 (by kernel_rfl) hlt ?_
   refine G.loadU none b1 (o1 + i * 1) _ (by kernel_rfl) (by kernel_rfl) e1 ?_
   refine G.gtrF (A.length : Int) 12 (by kernel_rfl) (by omega) ?_
   refine G.add (i : Int) 1 ((i + 1 : Nat) : Int) (by kernel_rfl) (by omega) (by omega) (by omega) ?_
   exact G.back (by kernel_rfl) (hJ1 (i + 1) _ _ _ ⟨by kernel_rfl, by kernel_rfl, by kernel_rfl⟩ l1 ⟨by omega, rfl⟩ (by omega))
  obtain rfl : i = A.length := by omega
  clear hlt
  refine G.lssF (A.length : Int) (A.length : Int) (by kernel_rfl) (by omega) ?_
  clear hJ1
  refine G.loop (ι := Nat) (fun i => [(0, .v (.slice a A.length c)), (5, .v (.int .i64 0)), (33, .v (.int .i64 (A.length : Int))), (34, .v (.int .i64 (i : Int)))]) (fun _ => [])
   (fun i u' m' => i ≤ A.length ∧ m' = PH.mt) (fun i => A.length - i) 0 (by kernel_rfl) (fun _ => by kernel_rfl) ⟨by kernel_rfl, by kernel_rfl, by kernel_rfl⟩ ⟨by omega, rfl⟩ ?_
  rintro J2 i hJ2 u2 m2 l2 ⟨hi, rfl⟩
  by_cases hlt : i < A.length
  ·refine G.lssT (i : Int) (A.length : Int) (by kernel_rfl) (by omega) ?_
   obtain ⟨b1, o1, a1, c1, rfl, e1, e2⟩ := (h.mono (l1.trans l2)).row (matT_at (List.getElem?_eq_getElem hlt))
   rw [List.length_map, hs.len hlt] at e1 e2
   refine G.addr b1 o1 A.length c i 1 (by kernel_rfl) hlt ?_
   refine G.loadU none b1 (o1 + i * 1) _ (by kernel_rfl) (by kernel_rfl) e1 ?_
   refine G.neqF (A.length : Int) 0 (by kernel_rfl) (by omega) ?_
   refine G.add (i : Int) 1 ((i + 1 : Nat) : Int) (by kernel_rfl) (by omega) (by omega) (by omega) ?_
   exact G.back (by kernel_rfl) (hJ2 (i + 1) _ _ _ ⟨by kernel_rfl, by kernel_rfl, by kernel_rfl⟩ l2 ⟨by omega, rfl⟩ (by omega))
  obtain rfl : i = A.length := by omega
  clear hlt
  refine G.lssF (A.length : Int) (A.length : Int) (by kernel_rfl) (by omega) ?_
  clear hJ2
  refine G.loop (ι := Nat) (fun i => [(0, .v (.slice a A.length c)), (5, .v (.int .i64 0)), (46, .v (.int .i64 (A.length : Int))), (47, .v (.int .i64 (i : Int)))]) (fun _ => [])
   (fun i u' m' => i ≤ A.length ∧ m' = PH.mt) (fun i => A.length - i) 0 (by kernel_rfl) (fun _ => by kernel_rfl) ⟨by kernel_rfl, by kernel_rfl, by kernel_rfl⟩ ⟨by omega, rfl⟩ ?_
  rintro J3 i hJ3 u3 m3 l3 ⟨hi, rfl⟩
  by_cases hlt : i < A.length
  ·refine G.lssT (i : Int) (A.length : Int) (by kernel_rfl) (by omega) ?_
   obtain ⟨b1, o1, a1, c1, rfl, e1, e2⟩ := (h.mono ((l1.trans l2).trans l3)).row (matT_at (List.getElem?_eq_getElem hlt))
   rw [List.length_map, hs.len hlt] at e1 e2
   refine G.addr b1 o1 A.length c i 1 (by kernel_rfl) hlt ?_
   refine G.loadU none b1 (o1 + i * 1) _ (by kernel_rfl) (by kernel_rfl) e1 ?_
   refine G.loop (ι := Nat) (fun k => [(0, .v (.slice (some ⟨b1, o1, none⟩) A.length c)), (5, .v (.int .i64 0)), (46, .v (.int .i64 (A.length : Int))), (47, .v (.int .i64 (i : Int))), (8, .v (.int .i64 (i : Int))), (54, .v (.int .i64 (A.length : Int))), (55, .v (.int .i64 (k : Int)))]) (fun _ => [])
    (fun k u' m' => k ≤ A.length ∧ m' = PH.mt) (fun k => A.length - k) 0 (by kernel_rfl) (fun _ => by kernel_rfl) ⟨by kernel_rfl, by kernel_rfl, by kernel_rfl⟩ ⟨by omega, rfl⟩ ?_
   rintro J4 k hJ4 u4 m4 l4 ⟨hk, rfl⟩
   by_cases hlk : k < A.length
   ·refine G.lssT (k : Int) (A.length : Int) (by kernel_rfl) (by omega) ?_
    have hki : k < A[i].length := by rw [hs.len hlt]; exact hlk
    obtain ⟨b2, o2, rfl, e3⟩ := ListP.at' (ListP.mono e2 l4) (j := k) (e := .string (mkS (ratT A[i][k]))) (by simp [strsV, List.getElem?_eq_getElem hki])
    refine G.addr b1 o1 A.length c i 1 (by kernel_rfl) hlt ?_
    refine G.loadU none b1 (o1 + i * 1) _ (by kernel_rfl) (by kernel_rfl) (e1.mono l4) ?_
    refine G.addr b2 o2 A.length c1 k 1 (by kernel_rfl) hlk ?_
    refine G.loadU none b2 (o2 + k * 1) _ (by kernel_rfl) (by kernel_rfl) e3 ?_
    refine G.call0 _ _ (by kernel_rfl) Tryz.call26 (refValid0 (hs.tx' hlt hki)) ?_
    rintro v5 u5 l5 rfl
    refine G.add (k : Int) 1 ((k + 1 : Nat) : Int) (by kernel_rfl) (by omega) (by omega) (by omega) ?_
    exact G.back (by kernel_rfl) (hJ4 (k + 1) _ _ _ ⟨by kernel_rfl, by kernel_rfl, by kernel_rfl⟩ (l4.trans l5) ⟨by omega, rfl⟩ (by omega))
   ·refine G.lssF (k : Int) (A.length : Int) (by kernel_rfl) (by omega) ?_
    refine G.add (i : Int) 1 ((i + 1 : Nat) : Int) (by kernel_rfl) (by omega) (by omega) (by omega) ?_
    exact G.back (by kernel_rfl) (hJ3 (i + 1) _ _ _ ⟨by kernel_rfl, by kernel_rfl, by kernel_rfl⟩ (l3.trans l4) ⟨by omega, rfl⟩ (by omega))
  ·refine G.lssF (i : Int) (A.length : Int) (by kernel_rfl) (by omega) ?_
   exact G.ret (.tuple #[.int .i64 (A.length : Int), .int .i64 0, .int .i64 0]) (by kernel_rfl) ⟨rfl, by rw [hz]⟩
end Go.Proofs.YtldokelpolbnnaaGreatDoor
end
section
set_option linter.unusedSectionVars false
set_option linter.unusedVariables false
namespace Go.Proofs.YtldokelpolbnnaaGreatDoor
open Go.RowKit
structure B3 where
 b : Bool
 a : Option Addr
 n : Nat
 c : Nat
def bv (f : B3) : Value := .agg #[.bool f.b, .slice f.a f.n f.c]
def bc (f : B3) : List SV := [.v (.bool f.b), .v (.slice f.a f.n f.c)]
theorem BigP.opB {u : PH} {v : Value} {z : Int} (h : BigP u v z) : ∃ f, v = bv f := by
 obtain ⟨b, a, n, c, rfl, _⟩ := h.opn
 exact ⟨⟨b, a, n, c⟩, rfl⟩
theorem lcm12 {q d : Nat} (hq : q ∣ 12) (hd : d ∣ 12) : q * (d / Nat.gcd q d) ∣ 12 := by
 rw [← Nat.mul_div_assoc _ (Nat.gcd_dvd_right _ _)]
 exact Nat.lcm_dvd hq hd
theorem le12 {q : Nat} (h : q ∣ 12) : 0 < q ∧ q ≤ 12 := ⟨Nat.pos_of_dvd_of_pos h (by omega), Nat.le_of_dvd (by omega) h⟩
theorem nl1 {n : Nat} (h : n < 1000000000) : nl n ≤ 1 := nl_le_of_lt (by simpa using h)
theorem nlN {n : Nat} (h : n < 1000000000) : nl ((n : Int)).natAbs ≤ 1 := by rw [Int.natAbs_natCast]; exact nl1 h
theorem dig5 {n : Nat} (h : n < 100000) : Lib.nDigits n ≤ 5 := dig_of_lt (k := 5) (by omega) (by omega)
set_option maxHeartbeats 8000000 in
theorem refHeavy0 {u : PH} {v : Value} {A : List (List Rat)} {n : Nat} (h : MatP u v (matT A)) (hs : Sq A) (hT : ∀ r ∈ A, ∀ q ∈ r, Tw q) (hn : n ≤ 12) : Fn0 Tryz.prog 72 [v, .int .i64 (n : Int)] u fun v' _ => v' = .bool false := by
 obtain ⟨a, c, rfl⟩ := h.opn
 rw [matT_length] at h ⊢
 have hle := hs.le
 refine Fn0.of Tryz.func72 (by kernel_rfl) (by kernel_rfl) ?_
 refine G.call0 _ _ (by kernel_rfl) Tryz.call38 (bigOf0 (n := 1) (by omega) (by omega)) ?_
 intro v1 u1 l1 k1
 obtain ⟨f1, rfl⟩ := k1.opB
 refine G.loop (ι := Nat × B3 × Nat) (fun i => [(0, .v (.slice a A.length c)), (1, .v (.int .i64 (n : Int))), (5, .p 1001 0), (18, .v (.int .i64 (A.length : Int))), (19, .v (.int .i64 (i.1 : Int)))]) (fun i => [(1001, ⟨42, bc i.2.1⟩)])
  (fun i u' m' => i.1 ≤ A.length ∧ i.2.2 ∣ 12 ∧ BigP u' (bv i.2.1) (i.2.2 : Int) ∧ m' = PH.mt) (fun i => A.length - i.1) (0, f1, 1) (by kernel_rfl) (fun _ => by kernel_rfl) ⟨by kernel_rfl, by kernel_rfl, by kernel_rfl⟩ ⟨Nat.zero_le _, Nat.one_dvd _, k1, rfl⟩ ?_
 rintro J ⟨i, f, q⟩ hJ u2 m2 l2 ⟨hi, hq, hf, rfl⟩
 simp only at hi hq hf hJ
 by_cases hlt : i < A.length
 ·refine G.lssT (i : Int) (A.length : Int) (by kernel_rfl) (by omega) ?_
  obtain ⟨b1, o1, a1, c1, rfl, e1, e2⟩ := (h.mono (l1.trans l2)).row (matT_at (List.getElem?_eq_getElem hlt))
  rw [List.length_map, hs.len hlt] at e1 e2
  refine G.addr b1 o1 A.length c i 1 (by kernel_rfl) hlt ?_
  refine G.loadU none b1 (o1 + i * 1) _ (by kernel_rfl) (by kernel_rfl) e1 ?_
  refine G.loop (ι := Nat × B3 × Nat) (fun k => [(0, .v (.slice (some ⟨b1, o1, none⟩) A.length c)), (1, .v (.int .i64 (n : Int))), (5, .p 1001 0), (18, .v (.int .i64 (A.length : Int))), (19, .v (.int .i64 (i : Int))), (6, .v (.int .i64 (i : Int))), (26, .v (.int .i64 (A.length : Int))), (27, .v (.int .i64 (k.1 : Int)))]) (fun k => [(1001, ⟨42, bc k.2.1⟩)])
   (fun k u' m' => k.1 ≤ A.length ∧ k.2.2 ∣ 12 ∧ BigP u' (bv k.2.1) (k.2.2 : Int) ∧ m' = PH.mt) (fun k => A.length - k.1) (0, f, q) (by kernel_rfl) (fun _ => by kernel_rfl) ⟨by kernel_rfl, by kernel_rfl, by kernel_rfl⟩ ⟨Nat.zero_le _, hq, hf, rfl⟩ ?_
  clear hf hq
  rintro J2 ⟨k, f, q⟩ hJ2 u3 m3 l3 ⟨hk, hq, hf, rfl⟩
  simp only at hk hq hf hJ2
  by_cases hlk : k < A.length
  ·refine G.lssT (k : Int) (A.length : Int) (by kernel_rfl) (by omega) ?_
   have hki : k < A[i].length := by rw [hs.len hlt]; exact hlk
   have htw : Tw A[i][k] := hT _ (List.getElem_mem hlt) _ (List.getElem_mem hki)
   obtain ⟨b2, o2, rfl, e3⟩ := ListP.at' (ListP.mono e2 l3) (j := k) (e := .string (mkS (ratT A[i][k]))) (by simp [strsV, List.getElem?_eq_getElem hki])
   refine G.addr b1 o1 A.length c i 1 (by kernel_rfl) hlt ?_
   refine G.loadU none b1 (o1 + i * 1) _ (by kernel_rfl) (by kernel_rfl) (e1.mono l3) ?_
   refine G.addr b2 o2 A.length c1 k 1 (by kernel_rfl) hlk ?_
   refine G.loadU none b2 (o2 + k * 1) _ (by kernel_rfl) (by kernel_rfl) e3 ?_
   refine G.call0 _ _ (by kernel_rfl) Tryz.call19 (refReadT htw.tx) ?_
   intro v4 u4 l4 k4
   obtain ⟨b4, a4, n4, c4, a4', n4', c4', rfl, _, _, k4d⟩ := k4.opn
   have hd := htw.den
   generalize A[i][k] = x at *
   obtain ⟨hd0, hd12⟩ := le12 hd
   obtain ⟨hq0, hq12⟩ := le12 hq
   have hg0 : 0 < Nat.gcd q x.den := Nat.gcd_pos_of_pos_left _ hq0
   refine G.call0 _ _ (by kernel_rfl) Tryz.call76 (bigGcd0 (hf.mono l4) k4d (Nat.le_trans (nl1 (by omega)) (by omega)) (Nat.le_trans (nl1 (by omega)) (by omega))) ?_
   intro v5 u5 l5 k5
   simp only [Int.natAbs_natCast] at k5
   obtain ⟨f5, rfl⟩ := k5.opB
   have hgle : Nat.gcd q x.den ≤ q := Nat.gcd_le_left _ hq0
   refine G.call0 _ _ (by kernel_rfl) Tryz.call77 (bigQuo0 (k4d.mono l5) k5 (Nat.le_trans (nl1 (by omega)) (by omega)) (Nat.le_trans (nl1 (by omega)) (by omega)) (by omega)) ?_
   rintro v6 u6 l6 ⟨x6, y6, rfl, k6, k6'⟩
   obtain ⟨f6, rfl⟩ := k6.opB
   obtain ⟨f6', rfl⟩ := k6'.opB
   have e6 : ((x.den : Int)).tdiv ((Nat.gcd q x.den : Nat) : Int) = ((x.den / Nat.gcd q x.den : Nat) : Int) := by
    rw [Int.tdiv_eq_ediv_of_nonneg (by omega)]; rfl
   rw [e6] at k6
   have hl12 := lcm12 hq hd
   have hdd : x.den / Nat.gcd q x.den ≤ x.den := Nat.div_le_self _ _
   refine G.call0 _ _ (by kernel_rfl) Tryz.call52 (bigMul0 (hf.mono (((l4.trans l5).trans l6))) k6 (Nat.le_trans (nl1 (by omega)) (by omega)) (Nat.le_trans (nlN (by omega)) (by omega))) ?_
   intro v7 u7 l7 k7
   obtain ⟨f7, rfl⟩ := k7.opB
   rw [← Int.natCast_mul] at k7
   generalize q * (x.den / Nat.gcd q x.den) = r at *
   obtain ⟨hr0, hr12⟩ := le12 hl12
   refine G.call0 _ _ (by kernel_rfl) Tryz.call115 (bigDigits0 k7 (Nat.le_trans (nl1 (by omega)) (by omega))) ?_
   rintro v8 u8 l8 rfl
   have hdg : Lib.nDigits (r : Int).natAbs ≤ 5 := dig5 (by omega)
   generalize Lib.nDigits (r : Int).natAbs = D at *
   have hnD : n * D ≤ 12 * 5 := Nat.mul_le_mul hn hdg
   refine G.mul (n : Int) (D : Int) ((n * D : Nat) : Int) (by kernel_rfl) (by rw [Int.natCast_mul]) (by omega) (by omega) ?_
   refine G.gtrF ((n * D : Nat) : Int) 600 (by kernel_rfl) (by omega) ?_
   refine G.add (k : Int) 1 ((k + 1 : Nat) : Int) (by kernel_rfl) (by omega) (by omega) (by omega) ?_
   exact G.back (by kernel_rfl) (hJ2 (k + 1, f7, r) _ _ _ ⟨by kernel_rfl, by kernel_rfl, by kernel_rfl⟩ (((((l3.trans l4).trans l5).trans l6).trans l7).trans l8) ⟨by dsimp only; omega, hl12, k7.mono l8, rfl⟩ (by dsimp only; omega))
  ·refine G.lssF (k : Int) (A.length : Int) (by kernel_rfl) (by omega) ?_
   refine G.add (i : Int) 1 ((i + 1 : Nat) : Int) (by kernel_rfl) (by omega) (by omega) (by omega) ?_
   exact G.back (by kernel_rfl) (hJ (i + 1, f, q) _ _ _ ⟨by kernel_rfl, by kernel_rfl, by kernel_rfl⟩ (l2.trans l3) ⟨by dsimp only; omega, hq, hf, rfl⟩ (by dsimp only; omega))
 ·refine G.lssF (i : Int) (A.length : Int) (by kernel_rfl) (by omega) ?_
  clear hJ hlt hi
  refine G.loop (ι := Nat) (fun i => [(0, .v (.slice a A.length c)), (1, .v (.int .i64 (n : Int))), (5, .p 1001 0), (58, .v (.int .i64 (A.length : Int))), (59, .v (.int .i64 (i : Int)))]) (fun i => [(1001, ⟨42, bc f⟩)])
   (fun i u' m' => i ≤ A.length ∧ m' = PH.mt) (fun i => A.length - i) 0 (by kernel_rfl) (fun _ => by kernel_rfl) ⟨by kernel_rfl, by kernel_rfl, by kernel_rfl⟩ ⟨Nat.zero_le _, rfl⟩ ?_
  rintro J i hJ u3 m3 l3 ⟨hi, rfl⟩
  by_cases hlt : i < A.length
  ·refine G.lssT (i : Int) (A.length : Int) (by kernel_rfl) (by omega) ?_
   obtain ⟨b1, o1, a1, c1, rfl, e1, e2⟩ := (h.mono ((l1.trans l2).trans l3)).row (matT_at (List.getElem?_eq_getElem hlt))
   rw [List.length_map, hs.len hlt] at e1 e2
   refine G.addr b1 o1 A.length c i 1 (by kernel_rfl) hlt ?_
   refine G.loadU none b1 (o1 + i * 1) _ (by kernel_rfl) (by kernel_rfl) e1 ?_
   refine G.loop (ι := Nat) (fun k => [(0, .v (.slice (some ⟨b1, o1, none⟩) A.length c)), (1, .v (.int .i64 (n : Int))), (5, .p 1001 0), (58, .v (.int .i64 (A.length : Int))), (59, .v (.int .i64 (i : Int))), (11, .v (.int .i64 (i : Int))), (66, .v (.int .i64 (A.length : Int))), (67, .v (.int .i64 (k : Int)))]) (fun k => [(1001, ⟨42, bc f⟩)])
    (fun k u' m' => k ≤ A.length ∧ m' = PH.mt) (fun k => A.length - k) 0 (by kernel_rfl) (fun _ => by kernel_rfl) ⟨by kernel_rfl, by kernel_rfl, by kernel_rfl⟩ ⟨Nat.zero_le _, rfl⟩ ?_
   rintro J2 k hJ2 u4 m4 l4 ⟨hk, rfl⟩
   by_cases hlk : k < A.length
   ·refine G.lssT (k : Int) (A.length : Int) (by kernel_rfl) (by omega) ?_
    have hki : k < A[i].length := by rw [hs.len hlt]; exact hlk
    have htw : Tw A[i][k] := hT _ (List.getElem_mem hlt) _ (List.getElem_mem hki)
    obtain ⟨b2, o2, rfl, e3⟩ := ListP.at' (ListP.mono e2 l4) (j := k) (e := .string (mkS (ratT A[i][k]))) (by simp [strsV, List.getElem?_eq_getElem hki])
    refine G.addr b1 o1 A.length c i 1 (by kernel_rfl) hlt ?_
    refine G.loadU none b1 (o1 + i * 1) _ (by kernel_rfl) (by kernel_rfl) (e1.mono l4) ?_
    refine G.addr b2 o2 A.length c1 k 1 (by kernel_rfl) hlk ?_
    refine G.loadU none b2 (o2 + k * 1) _ (by kernel_rfl) (by kernel_rfl) e3 ?_
    refine G.call0 _ _ (by kernel_rfl) Tryz.call19 (refReadT htw.tx) ?_
    intro v5 u5 l5 k5
    obtain ⟨b5, a5, n5, c5, a5', n5', c5', rfl, _, k5n, k5d⟩ := k5.opn
    have hd := htw.den
    have hnum := htw.num
    generalize A[i][k] = x at *
    obtain ⟨hd0, hd12⟩ := le12 hd
    obtain ⟨hq0, hq12⟩ := le12 hq
    have hfq := hf.mono ((l3.trans l4).trans l5)
    refine G.call0 _ _ (by kernel_rfl) Tryz.call77 (bigQuo0 hfq k5d (Nat.le_trans (nl1 (by omega)) (by omega)) (Nat.le_trans (nl1 (by omega)) (by omega)) (by omega)) ?_
    rintro v6 u6 l6 ⟨x6, y6, rfl, k6, k6'⟩
    obtain ⟨f6, rfl⟩ := k6.opB
    obtain ⟨f6', rfl⟩ := k6'.opB
    have e6 : ((q : Int)).tdiv (x.den : Int) = ((q / x.den : Nat) : Int) := by
     rw [Int.tdiv_eq_ediv_of_nonneg (by omega)]; rfl
    rw [e6] at k6
    have hdd : q / x.den ≤ q := Nat.div_le_self _ _
    refine G.call0 _ _ (by kernel_rfl) Tryz.call52 (bigMul0 (k5n.mono l6) k6 (Nat.le_trans (nl1 (by omega)) (by omega)) (Nat.le_trans (nlN (by omega)) (by omega))) ?_
    intro v7 u7 l7 k7
    obtain ⟨f7, rfl⟩ := k7.opB
    have hmul : (x.num * ((q / x.den : Nat) : Int)).natAbs ≤ 1000 * 12 := by
     rw [Int.natAbs_mul, Int.natAbs_natCast]
     exact Nat.mul_le_mul hnum (by omega)
    refine G.call0 _ _ (by kernel_rfl) Tryz.call115 (bigDigits0 k7 (Nat.le_trans (nl1 (by omega)) (by omega))) ?_
    rintro v8 u8 l8 rfl
    have hdg : Lib.nDigits (x.num * ((q / x.den : Nat) : Int)).natAbs ≤ 5 := dig5 (by omega)
    generalize Lib.nDigits (x.num * ((q / x.den : Nat) : Int)).natAbs = D at *
    have hnD : n * D ≤ 12 * 5 := Nat.mul_le_mul hn hdg
    refine G.mul (n : Int) (D : Int) ((n * D : Nat) : Int) (by kernel_rfl) (by rw [Int.natCast_mul]) (by omega) (by omega) ?_
    refine G.gtrF ((n * D : Nat) : Int) 600 (by kernel_rfl) (by omega) ?_
    refine G.add (k : Int) 1 ((k + 1 : Nat) : Int) (by kernel_rfl) (by omega) (by omega) (by omega) ?_
    exact G.back (by kernel_rfl) (hJ2 (k + 1) _ _ _ ⟨by kernel_rfl, by kernel_rfl, by kernel_rfl⟩ ((((l4.trans l5).trans l6).trans l7).trans l8) ⟨by omega, rfl⟩ (by omega))
   ·refine G.lssF (k : Int) (A.length : Int) (by kernel_rfl) (by omega) ?_
    refine G.add (i : Int) 1 ((i + 1 : Nat) : Int) (by kernel_rfl) (by omega) (by omega) (by omega) ?_
    exact G.back (by kernel_rfl) (hJ (i + 1) _ _ _ ⟨by kernel_rfl, by kernel_rfl, by kernel_rfl⟩ (l3.trans l4) ⟨by omega, rfl⟩ (by omega))
  ·refine G.lssF (i : Int) (A.length : Int) (by kernel_rfl) (by omega) ?_
   refine G.gtrF (n : Int) 600 (by kernel_rfl) (by omega) ?_
   exact G.ret (.bool false) (by kernel_rfl) ⟨rfl, rfl⟩
end Go.Proofs.YtldokelpolbnnaaGreatDoor
end
section
set_option linter.unusedSectionVars false
set_option linter.unusedVariables false
namespace Go.Proofs.YtldokelpolbnnaaGreatDoor
open Go.RowKit
structure Q4 where
 b : Bool
 a : Option Addr
 n : Nat
 c : Nat
 a' : Option Addr
 n' : Nat
 c' : Nat
def qv (f : Q4) : Value := .agg #[.bool f.b, .slice f.a f.n f.c, .bool false, .slice f.a' f.n' f.c']
def qc (f : Q4) : List SV := [.v (.bool f.b), .v (.slice f.a f.n f.c), .v (.bool false), .v (.slice f.a' f.n' f.c')]
theorem QP.opQ {u : PH} {v : Value} {q : Rat} (h : QP u v q) : ∃ f, v = qv f := by
 obtain ⟨b, a, n, c, a', n', c', rfl, _⟩ := h.opn
 exact ⟨⟨b, a, n, c, a', n', c'⟩, rfl⟩
def mvA (v : Value) (es : List Value) : Arr := ⟨v, 27, 1, es⟩
theorem mvA_at {v : Value} {es : List Value} {m0 m : PH} : (mvA v es).At m0 m = ArrAt m0 m v 27 1 es := rfl
end Go.Proofs.YtldokelpolbnnaaGreatDoor
end
