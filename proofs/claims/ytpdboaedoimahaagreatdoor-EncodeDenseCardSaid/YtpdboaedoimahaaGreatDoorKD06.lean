/- Joined out of parts of one proof by a program: contracts of the functions that the statement reaches, and the plain facts behind them. -/
import Derived.Test.YtpdboaedoimahaaGreatDoorKD05
import Derived.MapKept
import Derived.Laws.IdiomRangeMap
import Derived.Laws.StructEq
import Derived.ChangeKeysEq
set_option linter.unusedVariables false
set_option linter.unusedSimpArgs false
set_option linter.unusedSectionVars false
section
set_option linter.unusedSectionVars false
set_option linter.unusedVariables false
namespace Go.Proofs.YtpdboaedoimahaaGreatDoor
variable [Flag]
open Go.RowKit
def SV.pub (k g : Nat) : SV → SV
 | .p j off => cond (Nat.beq j k) (.v (.pointer (some ⟨g, off, none⟩))) (.p j off)
 | x => x
def Blk.pub (k g : Nat) (b : Blk) : Blk := ⟨b.t, b.cells.map (SV.pub k g)⟩
def S.pub (s : S) (k g : Nat) : S := { n := s.n, tm := fun d => (s.tm d).pub k g, hp := fun j => cond (Nat.beq j k) none ((s.hp j).map (Blk.pub k g)) }
theorem SV.pub_den (k : Nat) (ρ : Nat → Nat) (x : SV) : (x.pub k (ρ k)).den ρ = x.den ρ := by
 cases x with
 | junk => rfl
 | v x => rfl
 | p j off =>
  cases hb : Nat.beq j k with
  | true => have := Nat.eq_of_beq_eq_true hb; subst this; simp [SV.pub, SV.den]
  | false => simp [SV.pub, hb]
theorem SV.pub_junk {k g : Nat} {x : SV} : x.pub k g ≠ .junk ↔ x ≠ .junk := by
 cases x with
 | junk => simp [SV.pub]
 | v x => simp [SV.pub]
 | p j off => cases hb : Nat.beq j k <;> simp [SV.pub, hb]
theorem SV.pub_p {k g j off : Nat} {x : SV} (h : x.pub k g = .p j off) : x = .p j off ∧ j ≠ k := by
 cases x with
 | junk => cases h
 | v x => cases h
 | p j' off' =>
  cases hb : Nat.beq j' k with
  | true => simp [SV.pub, hb] at h
  | false =>
   simp [SV.pub, hb] at h
   obtain ⟨rfl, rfl⟩ := h
   exact ⟨rfl, fun e => by subst e; simp at hb⟩
theorem pub_hp_same (s : S) (k g : Nat) : (s.pub k g).hp k = none := by simp [S.pub]
theorem pub_hp_ne (s : S) {k g j : Nat} (h : j ≠ k) : (s.pub k g).hp j = (s.hp j).map (Blk.pub k g) := by
 have : Nat.beq j k = false := by rw [← Bool.not_eq_true]; exact fun hh => h (Nat.eq_of_beq_eq_true hh)
 simp [S.pub, this]
section rules
variable {c : Cx} {s : S} {u m : PH} {ρ : Nat → Nat} {a : Act} {w : World}
theorem Rel.pub (h : Rel c s u m ρ a w) {k : Nat} {t : TypeId} {xs : List Value} (hk : s.hp k = some ⟨t, xs.map SV.v⟩) : Rel c (s.pub k (ρ k)) u (m.upd (ρ k) (.cells xs.toArray t (0, 0))) ρ a w := by
 obtain ⟨⟨cs, e1, e2, e3⟩, e4, e5, e6⟩ := h.box k _ hk
 have hcs : cs = xs.toArray := by
  apply Array.ext
  ·simpa using e2
  ·intro i h1 h2
   have := e3 i (.v xs[i]) (by simp at h2; simp [h2]) (by simp)
   rw [Array.getElem?_eq_getElem h1] at this
   simpa [SV.den] using this
 subst hcs
 have hne : ∀ j, s.hp j ≠ none → j ≠ k → ρ j ≠ ρ k := fun j hj hjk e => hjk (h.inj j k hj (by rw [hk]; simp) e)
 refine ⟨h.sz, fun d hd => ?_, h.df.of fun r e _ hu hm => ⟨e, hu, by rw [upd_ne _ _ (fun e' => by rw [e', e1] at e; cases e)]; exact hm⟩, fun j b hb => ?_, fun i j hi hj he => ?_, ⟨fun d j off hd => ?_, fun i b j off hi hm => ?_⟩, ⟨h.gd.pu, fun g o hg => ?_, fun g => ?_, h.gd.cl⟩, ⟨h.gr.sz, h.gr.old, h.gr.us, fun g hg hm => ?_, h.gr.io, h.gr.dr⟩⟩
 ·have hd' : s.tm d ≠ .junk := SV.pub_junk.1 hd
  show a.tmps[d]? = some (((s.tm d).pub k (ρ k)).den ρ)
  rw [SV.pub_den]; exact h.tm d hd'
 ·by_cases hjk : j = k
  ·subst hjk; rw [pub_hp_same] at hb; cases hb
  ·rw [pub_hp_ne _ hjk] at hb
   obtain ⟨b0, hb0, rfl⟩ := Option.map_eq_some_iff.1 hb
   obtain ⟨⟨cs', f1, f2, f3⟩, f4, f5, f6⟩ := h.box j b0 hb0
   refine ⟨⟨cs', f1, by simp [Blk.pub, f2], fun i x hi hx => ?_⟩, f4, f5, ?_⟩
   ·simp only [Blk.pub, List.getElem?_map] at hi
    obtain ⟨y, hy, rfl⟩ := Option.map_eq_some_iff.1 hi
    rw [SV.pub_den]; exact f3 i y hy (SV.pub_junk.1 hx)
   ·rw [upd_ne _ _ (hne j (by rw [hb0]; simp) hjk)]; exact f6
 ·have h1 : ∀ j, (s.pub k (ρ k)).hp j ≠ none → s.hp j ≠ none := by
   intro j hj hn
   by_cases hjk : j = k
   ·subst hjk; exact hj (pub_hp_same _ _ _)
   ·rw [pub_hp_ne _ hjk, hn] at hj; exact hj rfl
  exact h.inj i j (h1 i hi) (h1 j hj) he
 ·obtain ⟨h1, h2⟩ := SV.pub_p hd
  rw [pub_hp_ne _ h2]
  have := h.lv.1 d j off h1
  intro hn; exact this (by simpa using hn)
 ·by_cases hik : i = k
  ·subst hik; rw [pub_hp_same] at hi; cases hi
  ·rw [pub_hp_ne _ hik] at hi
   obtain ⟨b0, hb0, rfl⟩ := Option.map_eq_some_iff.1 hi
   simp only [Blk.pub, List.mem_map] at hm
   obtain ⟨y, hy, hyp⟩ := hm
   obtain ⟨rfl, h2⟩ := SV.pub_p hyp
   rw [pub_hp_ne _ h2]
   have := h.lv.2 i b0 j off hb0 hy
   intro hn; exact this (by simpa using hn)
 ·by_cases hg' : g = ρ k
  ·subst hg'; rw [upd_same] at hg; simp only [Option.some.injEq] at hg; subst hg; exact e1
  ·rw [upd_ne _ _ hg'] at hg; exact h.gd.pm g o hg
 ·by_cases hg' : g = ρ k
  ·subst hg'; exact .inl e5
  ·rw [upd_ne _ _ hg']; exact h.gd.ap g
 ·rw [upd_ne _ _ (by omega)]; exact h.gr.ms g hg hm
end rules
section rules2
variable {P : Program} [Mixed P] {fn : Func} {Post : Spec} {st : List KI × S} {u m : PH}
theorem G.pub (k : Nat) (t : TypeId) (xs : List Value) (h : noReg (ctl P 100 st).1 = true) (hb : (ctl P 100 st).2.hp k = some ⟨t, xs.map SV.v⟩)
  (kk : ∀ g, u g = none → m g = none → G P fn Post ((ctl P 100 st).1, (ctl P 100 st).2.pub k g) u (m.upd g (.cells xs.toArray t (0, 0)))) : G P fn Post st u m := by
 refine ⟨ctl_sound 100 st ?_⟩
 rw [Sym.ofNo h]
 intro c ρ a w hm0 hr
 obtain ⟨_, _, e5, e6⟩ := hr.box k _ hb
 have := (kk (ρ k) e5 e6).out
 rw [Sym.ofNo (by exact h)] at this
 exact this c ρ a w hm0 (hr.pub hb)
end rules2
end Go.Proofs.YtpdboaedoimahaaGreatDoor
end
section
set_option linter.unusedSectionVars false
set_option linter.unusedVariables false
namespace Go.Proofs.YtpdboaedoimahaaGreatDoor
variable [Flag]
open Go.RowKit
def PH.or (x y : PH) : PH := fun g => match x g with | some o => some o | none => y g
theorem PH.or_l {x y : PH} {g : Nat} {o : Obj} (h : x g = some o) : x.or y g = some o := by simp [PH.or, h]
theorem PH.or_r {x y : PH} {g : Nat} (h : x g = none) : x.or y g = y g := by simp [PH.or, h]
theorem Good.frameM {u mf mc u' mc' : PH} {w w' : World} (h : Good u (mf.or mc) w) (hd : Apart mf mc) (g1 : Good u' mc' w') (g2 : Grown u mc w u' mc' w') : Good u' (mf.or mc') w' ∧ Grown u (mf.or mc) w u' (mf.or mc') w' := by
 have hmf : ∀ g o, mf g = some o → g < w.heap.size ∧ mc g = none ∧ w'.heap[g]? = some o ∧ u' g = none := by
  intro g o hg
  have h1 := h.pm g o (PH.or_l hg)
  have h2 : mc g = none := (hd g).resolve_left (by rw [hg]; simp)
  have hlt := lt_of_at h1
  refine ⟨hlt, h2, by rw [g2.old g hlt h2]; exact h1, ?_⟩
  rw [g2.us g hlt]
  exact (h.ap g).resolve_right (by rw [PH.or_l hg]; simp)
 refine ⟨⟨g1.pu, fun g o hg => ?_, fun g => ?_, g1.cl⟩, ⟨g2.sz, fun g hg hm => ?_, g2.us, fun g hg hm => ?_, g2.io, g2.dr⟩⟩
 ·cases hx : mf g with
  | some o' => rw [PH.or_l hx] at hg; cases hg; exact (hmf g _ hx).2.2.1
  | none => rw [PH.or_r hx] at hg; exact g1.pm g o hg
 ·cases hx : mf g with
  | some o' => exact .inl (hmf g _ hx).2.2.2
  | none => rw [PH.or_r hx]; exact g1.ap g
 ·cases hx : mf g with
  | some o' => rw [PH.or_l hx] at hm; cases hm
  | none => rw [PH.or_r hx] at hm; exact g2.old g hg hm
 ·cases hx : mf g with
  | some o' => rw [PH.or_l hx] at hm; cases hm
  | none => rw [PH.or_r hx] at hm ⊢; exact g2.ms g hg hm
section rules
variable {P : Program} [Mixed P] {fn : Func} {Post : Spec} {st : List KI × S} {u m : PH}
def noDr (st : List KI × S) : Bool := match st.1 with
 | .reg _ _ false _ :: _ => true
 | .reg _ ops true (i :: _) :: _ => match ops[i]? with | some o => lateB ops i o.op || allOwn ops st.2 | none => false
 | _ => false
theorem noDr_late {id : Nat} {ops : Array Oper} {dr : Bool} {i : Nat} {l : List Nat} {k : List KI} {s : S} {o : Oper} (ho : ops[i]? = some o) (h : noDr (.reg id ops dr (i :: l) :: k, s) = true) : dr = false ∨ lateB ops i o.op = true ∨ allOwn ops s = true := by
 cases dr with
 | false => exact .inl rfl
 | true => right; simpa [noDr, ho] using h
theorem G.bigN {V : Stop} {K : Value → PH → PH → Prop} (h : stopV P (adv P st) = V) (hV : V ≠ .other) (hdr : noDr (adv P st) = true) (hf : ∀ env op, viewOp P env op = V → freeOp op = false)
  (hr : ∀ env (o : Oper), viewOp P env o.op = V → ∀ w, Good u m w → OpDoes P env o w fun v w' => ∃ u' m', Good u' m' w' ∧ Grown u m w u' m' w' ∧ K v u' m')
  (k : ∀ v u' m', PH.le u u' → K v u' m' → G P fn Post (nx (adv P st) v) u' m') : G P fn Post st u m := by
 refine G.stp ?_
 obtain ⟨id, ops, dr, i, l, kk, s, o, e, ho, hg, hd, hv, hs, hview, hnx⟩ := stopV_spec h hV
 have hdr' := noDr_late ho (e ▸ hdr)
 rw [e]
 refine ⟨?_⟩
 refine Ob.big (K := K) ho hg hd hv hs (hf _ _ hview) (fun v u' m' hK => .inr hdr') (fun w hgd => hr _ o hview w hgd) (fun v u' m' h1 h2 => ?_)
 have := (k v u' m' h1 h2).out
 rw [hnx] at this
 exact this
end rules
end Go.Proofs.YtpdboaedoimahaaGreatDoor
end
section
set_option linter.unusedSectionVars false
set_option linter.unusedVariables false
namespace Go.Proofs.YtpdboaedoimahaaGreatDoor
open Go.RowKit
end Go.Proofs.YtpdboaedoimahaaGreatDoor
end
section
set_option linter.unusedSectionVars false
set_option linter.unusedVariables false
namespace Go.Proofs.YtpdboaedoimahaaGreatDoor
open Go.RowKit
end Go.Proofs.YtpdboaedoimahaaGreatDoor
end
section
set_option linter.unusedSectionVars false
set_option linter.unusedVariables false
namespace Go.Proofs.YtpdboaedoimahaaGreatDoor
open Go.RowKit
theorem ratT_zero : ratT 0 = [48] := by rw [ratT, if_pos (by rfl)]; exact itoa_zero
theorem ratT_one : ratT 1 = [49] := by rw [ratT, if_pos (by rfl)]; exact itoa_one
end Go.Proofs.YtpdboaedoimahaaGreatDoor
end
section
set_option linter.unusedSectionVars false
set_option linter.unusedVariables false
namespace Go.Proofs.YtpdboaedoimahaaGreatDoor
open Go.RowKit
theorem mt_or (mc : PH) : PH.mt.or mc = mc := by funext g; rfl
theorem apart_mt (mc : PH) : Apart PH.mt mc := fun _ => .inl rfl
end Go.Proofs.YtpdboaedoimahaaGreatDoor
end
section
set_option linter.unusedSectionVars false
set_option linter.unusedVariables false
namespace Go.Proofs.YtpdboaedoimahaaGreatDoor
variable [Flag]
open Go.RowKit
section rules
variable {P : Program} [Mixed P] {fn : Func} {Post : Spec} {st : List KI × S} {u m : PH}
theorem G.storeM (sz b off : Nat) (t : TypeId) (cs : List Value) (e : Value) (h : stopV P (adv P st) = .store (some sz) (.pointer (some ⟨b, off, none⟩)) e) (hb : m b = some (.cells cs.toArray t (0, 0))) (ho : ∀ x ∈ cs, cellOK x = true) (hl : off + sz ≤ cs.length) (he : e.cells.size = sz) (hc : e.cells.toList.all cellOK = true)
  (k : G P fn Post (nx (adv P st) undef) u (m.upd b (.cells (cs.take off ++ e.cells.toList ++ cs.drop (off + sz)).toArray t (0, 0)))) : G P fn Post st u m := by
 refine G.big (K := fun v' u' m' => u' = u ∧ v' = undef ∧ m' = m.upd b (.cells (cs.take off ++ e.cells.toList ++ cs.drop (off + sz)).toArray t (0, 0))) h (by simp) (fun env op hv => ?_) (.inr fun env op hv => ?_) (fun env o hview w hgd => ?_) (fun v' u' m' _ hk => ?_)
 ·obtain ⟨t', X, Y, rfl, _⟩ := view_store hv; rfl
 ·obtain ⟨t', X, Y, rfl, _⟩ := view_store hv; rfl
 ·obtain ⟨t', X, Y, e1, e2, e3, ht⟩ := view_store hview
  obtain ⟨dst, opp, type, pos, after, guard⟩ := o
  simp only at e1; subst e1
  rw [List.all_eq_true] at hc
  have hgw := hgd.pm b _ hb
  have hst := run_storeCells_at P b off t e.cells.toList 0 cs.toArray w hgw (by simp [he]; omega) (fun x hx => cellOK_one (hc x hx))
  simp only [Nat.add_zero, Array.length_toList, he, List.toList_toArray] at hst
  have hcell : ∀ x ∈ (cs.take off ++ e.cells.toList ++ cs.drop (off + sz)).toArray.toList, cellOK x = true := by
   intro x hx
   simp only [List.toList_toArray, List.mem_append] at hx
   rcases hx with (hx | hx) | hx
   ·exact ho x (List.mem_of_mem_take hx)
   ·exact hc x hx
   ·exact ho x (List.mem_of_mem_drop hx)
  obtain ⟨g1, g2⟩ := hgd.setM hb hcell
  unfold OpDoes
  have hex : (execOp env ⟨dst, .store t' X Y, type, pos, after, guard⟩).run P w = .ok .skip (w.setRow b (cs.take off ++ e.cells.toList ++ cs.drop (off + sz)).toArray) := by
   simp only [execOp, e2, e3]
   simp only [List.append_assoc] at hst ⊢
   simp [Instr.storeAt, Instr.sureAddr, storeVar, run_sizeOf' ht, he, hst]
  rw [hex]
  exact ⟨u, _, g1, g2, rfl, rfl, rfl⟩
 ·obtain ⟨rfl, rfl, rfl⟩ := hk
  exact k
end rules
end Go.Proofs.YtpdboaedoimahaaGreatDoor
end
section
set_option linter.unusedSectionVars false
set_option linter.unusedVariables false
namespace Go.Proofs.YtpdboaedoimahaaGreatDoor
variable [Flag]
section rules
variable {P : Program} [Mixed P] {fn : Func} {Post : Spec} {st : List KI × S} {u m : PH}
theorem Rel.less {c : Cx} {s : S} {ρ : Nat → Nat} {a : Act} {w : World} (h : Rel c s u m ρ a w) {m' : PH} (hl : PH.le m' m) : Rel c s u m' ρ a w := by
 have hn : ∀ g, m g = none → m' g = none := fun g hg => by
  cases e : m' g with
  | none => rfl
  | some o => rw [hl g o e] at hg; cases hg
 refine ⟨h.sz, h.tm, h.df.of fun r e _ hu hm => ⟨e, hu, hn _ hm⟩, fun k b hb => ?_, h.inj, h.lv, h.gd.less hl, ⟨h.gr.sz, h.gr.old, h.gr.us, fun g hg hm => hn g (h.gr.ms g hg hm), h.gr.io, h.gr.dr⟩⟩
 obtain ⟨e1, e2, e3, e4⟩ := h.box k b hb
 exact ⟨e1, e2, e3, hn _ e4⟩
theorem G.drop (m' : PH) (h : noReg (ctl P 100 st).1 = true) (hl : PH.le m' m) (k : G P fn Post (ctl P 100 st) u m') : G P fn Post st u m := by
 refine ⟨ctl_sound 100 st ?_⟩
 have hk := k.out
 rw [Sym.ofNo h] at hk ⊢
 intro c ρ a w hm0 hr
 exact hk c ρ a w hm0 (hr.less hl)
theorem PH.mt_le (m : PH) : PH.le PH.mt m := fun _ _ h => by cases h
end rules
end Go.Proofs.YtpdboaedoimahaaGreatDoor
end
section
set_option linter.unusedSectionVars false
set_option linter.unusedVariables false
namespace Go.Proofs.YtpdboaedoimahaaGreatDoor
open Go.RowKit
end Go.Proofs.YtpdboaedoimahaaGreatDoor
end
section
set_option linter.unusedSectionVars false
set_option linter.unusedVariables false
namespace Go.Proofs.YtpdboaedoimahaaGreatDoor
open Go.RowKit
end Go.Proofs.YtpdboaedoimahaaGreatDoor
end
section
set_option linter.unusedSectionVars false
set_option linter.unusedVariables false
namespace Go.Proofs.YtpdboaedoimahaaGreatDoor
open Go.RowKit
section lists
variable {α : Type} {R : PH → Value → α → Prop} {u u' : PH}
end lists
theorem ArrAt.some' {m0 m : PH} {t : TypeId} {sz : Nat} {es : List Value} {a : Addr} {n c : Nat} (ha : ArrAt m0 m (.slice (some a) n c) t sz es) : ∃ g, a = ⟨g, 0, none⟩ ∧ m0 g = none := by
 rcases ha.2 with ⟨h, _, _⟩ | ⟨g, cap, rest, h0, _, h, _⟩
 ·simp at h
 ·simp only [Value.slice.injEq, Option.some.injEq] at h
  exact ⟨g, h.1, h0⟩
end Go.Proofs.YtpdboaedoimahaaGreatDoor
end
section
set_option linter.unusedSectionVars false
set_option linter.unusedVariables false
namespace Go.Proofs.YtpdboaedoimahaaGreatDoor
open Go.RowKit
end Go.Proofs.YtpdboaedoimahaaGreatDoor
end
section
set_option linter.unusedSectionVars false
set_option linter.unusedVariables false
namespace Go.Proofs.YtpdboaedoimahaaGreatDoor
variable [Flag]
open Go.RowKit
structure Arr where
 v : Value
 t : TypeId
 sz : Nat
 es : List Value
def Arr.At (a : Arr) (m0 m : PH) : Prop := ArrAt m0 m a.v a.t a.sz a.es
def Bag : PH → List Arr → Prop
 | _, [] => True
 | m, a :: l => ∃ m0, a.At m0 m ∧ Bag m0 l
theorem upd_comm (m : PH) {g h : Nat} (o p : Obj) (hn : g ≠ h) : (m.upd g o).upd h p = (m.upd h p).upd g o := by
 funext k
 unfold PH.upd
 by_cases h1 : k = g
 ·subst h1; simp [hn]
 ·by_cases h2 : k = h
  ·subst h2; simp [h1]
  ·simp [h1, h2]
theorem At.swap {x y : Arr} {m0 m1 m : PH} (hy : y.At m1 m) (hx : x.At m0 m1) : ∃ m2, y.At m0 m2 ∧ x.At m2 m ∧ ∀ (x' : Arr) m', x'.At m2 m' → ∃ m1', y.At m1' m' ∧ x'.At m0 m1' := by
 obtain ⟨oy, hy⟩ := hy
 rcases hy with ⟨y1, y2, rfl⟩ | ⟨h, cap, rest, y1, rfl, y2, y3, y4, y5⟩
 ·exact ⟨m0, ⟨oy, .inl ⟨y1, y2, rfl⟩⟩, hx, fun x' m' hx' => ⟨m', ⟨oy, .inl ⟨y1, y2, rfl⟩⟩, hx'⟩⟩
 ·obtain ⟨ox, hx⟩ := hx
  rcases hx with ⟨x1, x2, rfl⟩ | ⟨g, cap', rest', x1, rfl, x2, x3, x4, x5⟩
  ·refine ⟨_, ⟨oy, .inr ⟨h, cap, rest, y1, rfl, y2, y3, y4, y5⟩⟩, ⟨ox, .inl ⟨x1, x2, rfl⟩⟩, fun x' m' hx' => ?_⟩
   obtain ⟨ox', hx'⟩ := hx'
   rcases hx' with ⟨z1, z2, rfl⟩ | ⟨g', cap'', rest'', z1, rfl, z2, z3, z4, z5⟩
   ·exact ⟨_, ⟨oy, .inr ⟨h, cap, rest, y1, rfl, y2, y3, y4, y5⟩⟩, ⟨ox', .inl ⟨z1, z2, rfl⟩⟩⟩
   ·have hne : g' ≠ h := fun e => by subst e; rw [upd_same] at z1; cases z1
    rw [upd_ne _ _ hne] at z1
    refine ⟨_, ⟨oy, .inr ⟨h, cap, rest, ?_, upd_comm _ _ _ hne.symm, y2, y3, y4, y5⟩⟩, ⟨ox', .inr ⟨g', cap'', rest'', z1, rfl, z2, z3, z4, z5⟩⟩⟩
    rw [upd_ne _ _ hne.symm]; exact y1
  ·have hne : h ≠ g := fun e => by subst e; rw [upd_same] at y1; cases y1
   rw [upd_ne _ _ hne] at y1
   refine ⟨_, ⟨oy, .inr ⟨h, cap, rest, y1, rfl, y2, y3, y4, y5⟩⟩, ⟨ox, .inr ⟨g, cap', rest', ?_, upd_comm _ _ _ hne.symm, x2, x3, x4, x5⟩⟩, fun x' m' hx' => ?_⟩
   ·rw [upd_ne _ _ hne.symm]; exact x1
   ·obtain ⟨ox', hx'⟩ := hx'
    rcases hx' with ⟨z1, z2, rfl⟩ | ⟨g', cap'', rest'', z1, rfl, z2, z3, z4, z5⟩
    ·exact ⟨_, ⟨oy, .inr ⟨h, cap, rest, y1, rfl, y2, y3, y4, y5⟩⟩, ⟨ox', .inl ⟨z1, z2, rfl⟩⟩⟩
    ·have hne' : g' ≠ h := fun e => by subst e; rw [upd_same] at z1; cases z1
     rw [upd_ne _ _ hne'] at z1
     refine ⟨_, ⟨oy, .inr ⟨h, cap, rest, ?_, upd_comm _ _ _ hne'.symm, y2, y3, y4, y5⟩⟩, ⟨ox', .inr ⟨g', cap'', rest'', z1, rfl, z2, z3, z4, z5⟩⟩⟩
     rw [upd_ne _ _ hne'.symm]; exact y1
theorem Bag.focus : ∀ {l : List Arr} {m : PH} (_ : Bag m l) (i : Nat) {x : Arr}, l[i]? = some x → ∃ m0, x.At m0 m ∧ ∀ (x' : Arr) m', x'.At m0 m' → Bag m' (l.set i x')
 | [], m, _, i, x, hi => by simp at hi
 | y :: l, m, ⟨m1, hy, hl⟩, 0, x, hi => by
  simp at hi; subst hi
  exact ⟨m1, hy, fun x' m' hx' => ⟨m1, hx', hl⟩⟩
 | y :: l, m, ⟨m1, hy, hl⟩, i + 1, x, hi => by
  simp at hi
  obtain ⟨m0, hx, hput⟩ := Bag.focus hl i hi
  obtain ⟨m2, hy2, hx2, hk⟩ := At.swap hy hx
  refine ⟨m2, hx2, fun x' m' hx' => ?_⟩
  obtain ⟨m1', k1, k2⟩ := hk x' m' hx'
  exact ⟨m1', k1, hput x' m1' k2⟩
theorem Bag.take : ∀ {l : List Arr} {m : PH} (_ : Bag m l) (i : Nat) {x : Arr}, l[i]? = some x → ∃ m0, x.At m0 m ∧ Bag m0 (l.eraseIdx i)
 | [], m, _, i, x, hi => by simp at hi
 | y :: l, m, ⟨m1, hy, hl⟩, 0, x, hi => by
  simp at hi; subst hi
  exact ⟨m1, hy, hl⟩
 | y :: l, m, ⟨m1, hy, hl⟩, i + 1, x, hi => by
  simp at hi
  obtain ⟨m0, hx, hput⟩ := Bag.take hl i hi
  obtain ⟨m2, hy2, hx2, hk⟩ := At.swap hy hx
  exact ⟨m2, hx2, m0, hy2, hput⟩
theorem Bag.el {l : List Arr} {m : PH} (h : Bag m l) (i : Nat) {x : Arr} (hi : l[i]? = some x) {b n c j : Nat} {e : Value} (hv : x.v = .slice (some ⟨b, 0, none⟩) n c) (hj : x.es[j]? = some e) : ElP m b (0 + j * x.sz) e := by
 obtain ⟨m0, hx, _⟩ := h.focus i hi
 unfold Arr.At at hx
 rw [hv] at hx
 exact hx.el hj
section rules
variable {P : Program} [Mixed P] {fn : Func} {Post : Spec} {st : List KI × S} {u m : PH}
theorem G.callO (f : Nat) (args : List Value) {R : Value → PH → PH → Prop} (h : stopV P (adv P st) = .call f args) (hc : ∀ args w, (callFunc f args).run P w = .ok (.enter f args) w) (c : Contract P f args u PH.mt R)
  (k : ∀ v u' mc, PH.le u u' → R v u' mc → (∀ g, mc g ≠ none → m g = none) → G P fn Post (nx (adv P st) v) u' (m.or mc)) : G P fn Post st u m := by
 refine G.big (K := fun v u' m' => ∃ mc, m' = m.or mc ∧ R v u' mc ∧ ∀ g, mc g ≠ none → m g = none) h (by simp) view_call_free (.inl fun v u' m' hK => ?_) (fun env o hview w hgd => ?_) (fun v u' m' h1 h2 => ?_)
 ·obtain ⟨mc, rfl, _⟩ := hK
  exact fun g o hg => PH.or_l hg
 ·refine does_call hview hc w _ (Calls.mono (c w hgd.noM) fun e w' he => ?_)
  obtain ⟨v, u', mc, e1, e2, e3, e4⟩ := he
  have hor : m.or PH.mt = m := by
   funext g; unfold PH.or; split
   ·rename_i o e; rw [e]
   ·rename_i e; rw [e]; rfl
  have hfr : ∀ g, mc g ≠ none → m g = none := fun g hg => by
   rcases Nat.lt_or_ge g w.heap.size with hlt | hge
   ·exact absurd (e3.ms g hlt rfl) hg
   ·exact hgd.pm.none hge
  obtain ⟨g1, g2⟩ := Good.frameM (mf := m) (mc := PH.mt) (by rw [hor]; exact hgd) (fun _ => .inr rfl) e2 e3
  rw [hor] at g2
  exact ⟨v, e1, u', m.or mc, g1, g2, mc, rfl, e4, hfr⟩
 ·obtain ⟨mc, rfl, hR, hf⟩ := h2
  exact k v u' mc h1 hR hf
theorem view_copy {env : Operand → Value} {o : Op} {ts : List TypeId} {xs : List Value} (h : viewOp P env o = .blt .copy ts xs) : mutOp o = true ∧ freeOp o = false := by
 obtain ⟨c, rfl, h2, _⟩ := view_blt h
 obtain ⟨cal, a, t⟩ := c
 simp only at h2; subst h2
 exact ⟨rfl, rfl⟩
theorem G.copyM (dT sT e : TypeId) (sz g o n c : Nat) (a : Addr) (sn sc : Nat) (t : TypeId) (cur cs : List Value) (h : stopV P (adv P st) = .blt .copy [dT, sT] [.slice (some ⟨g, o, none⟩) n c, .slice (some a) sn sc])
  (hu : P.underlying dT = some (.slice e)) (hsz : szB P e = some sz) (hb : m g = some (.cells cur.toArray t (0, 0))) (hk : cs.length = Nat.min sn n * sz)
  (hsrc : ∀ w, Part u w → Part m w → ∀ (j : Nat) (v : Value), cs[j]? = some v → w.cell? (a.add j) = some v) (hfit : o + cs.length ≤ cur.length) (h1 : ∀ x ∈ cs, cellOK x = true) (h2 : ∀ x ∈ cur, cellOK x = true)
  (k : G P fn Post (nx (adv P st) (.int .i64 ((Nat.min sn n : Nat) : Int))) u (m.upd g (.cells (cur.take o ++ cs ++ cur.drop (o + cs.length)).toArray t (0, 0)))) : G P fn Post st u m := by
 refine G.big (K := fun v' u' m' => u' = u ∧ v' = .int .i64 ((Nat.min sn n : Nat) : Int) ∧ m' = m.upd g (.cells (cur.take o ++ cs ++ cur.drop (o + cs.length)).toArray t (0, 0))) h (by simp) (fun env op hv => (view_copy hv).2) (.inr fun env op hv => (view_copy hv).1) (fun env op hview w hgd => ?_) (fun v' u' m' _ hk => ?_)
 ·obtain ⟨cc, e1, e2, e3, e4⟩ := view_blt hview
  obtain ⟨dst, opp, type, pos, after, guard⟩ := op
  obtain ⟨cal, ar, ty⟩ := cc
  simp only at e1 e2 e3 e4; subst e1 e2 e3
  have hgw := hgd.pm g _ hb
  have hl := run_loadCells_list (P := P) w a cs (hsrc w hgd.pu hgd.pm)
  have hst := run_storeCells_at P g o t cs 0 cur.toArray w hgw (by simpa using hfit) (fun x hx => cellOK_one (h1 x hx))
  have hrun : (Builtin.copy_ #[dT, sT] type #[.slice (some ⟨g, o, none⟩) n c, .slice (some a) sn sc]).run P w = .ok (.int .i64 ((Nat.min sn n : Nat) : Int)) (w.setRow g (cur.take o ++ cs ++ cur.drop (o + cs.length)).toArray) := by
   simp only [Nat.add_zero, List.toList_toArray] at hst
   simp [Builtin.copy_, run_underlying hu, Builtin.lenOf, Builtin.firstCells, run_sizeOf' hsz, ← hk, hl]
   rw [hst]
   simp [goInt]
  have hcell : ∀ x ∈ (cur.take o ++ cs ++ cur.drop (o + cs.length)).toArray.toList, cellOK x = true := by
   intro x hx
   simp only [List.toList_toArray, List.mem_append] at hx
   rcases hx with (hx | hx) | hx
   ·exact h2 x (List.mem_of_mem_take hx)
   ·exact h1 x hx
   ·exact h2 x (List.mem_of_mem_drop hx)
  obtain ⟨g1, g2⟩ := hgd.setM hb hcell
  unfold OpDoes
  have hex : (execOp env ⟨dst, .call ⟨.builtin .copy, ar, #[dT, sT]⟩, type, pos, after, guard⟩).run P w = .ok (.value (.int .i64 ((Nat.min sn n : Nat) : Int))) (w.setRow g (cur.take o ++ cs ++ cur.drop (o + cs.length)).toArray) := by
   simp [execOp, resolve, invoke, builtin, e4, hrun]
  rw [hex]
  exact ⟨u, _, g1, g2, rfl, rfl, rfl⟩
 ·obtain ⟨rfl, rfl, rfl⟩ := hk
  exact k
end rules
end Go.Proofs.YtpdboaedoimahaaGreatDoor
end
section
set_option linter.unusedSectionVars false
set_option linter.unusedVariables false
namespace Go.Proofs.YtpdboaedoimahaaGreatDoor
open Go.RowKit
theorem flat_take {sz : Nat} {es : List Value} (h : ElsOK sz es) (k : Nat) : (flat es).take (k * sz) = flat (es.take k) := by
 by_cases hk : k ≤ es.length
 ·have e : flat es = flat (es.take k) ++ flat (es.drop k) := by rw [← flat_append, List.take_append_drop]
  have hl : (flat (es.take k)).length = k * sz := by rw [flat_length (sz := sz) (fun x hx => h x (List.mem_of_mem_take hx)), List.length_take]; congr 1; omega
  rw [e, List.take_append_of_le_length (by omega), ← hl, List.take_length]
 ·rw [List.take_of_length_le (by rw [flat_length h]; exact Nat.mul_le_mul_right _ (by omega)), List.take_of_length_le (by omega)]
theorem flat_drop {sz : Nat} {es : List Value} (h : ElsOK sz es) (k : Nat) : (flat es).drop (k * sz) = flat (es.drop k) := by
 by_cases hk : k ≤ es.length
 ·have e : flat es = flat (es.take k) ++ flat (es.drop k) := by rw [← flat_append, List.take_append_drop]
  have hl : (flat (es.take k)).length = k * sz := by rw [flat_length (sz := sz) (fun x hx => h x (List.mem_of_mem_take hx)), List.length_take]; congr 1; omega
  rw [e, ← hl, List.drop_left]
 ·rw [List.drop_of_length_le (by rw [flat_length h]; exact Nat.mul_le_mul_right _ (by omega)), List.drop_of_length_le (by omega)]; rfl
theorem ElsOK.replicate {sz : Nat} {e : Value} (h : ElsOK sz [e]) (n : Nat) : ElsOK sz (List.replicate n e) := fun x hx => h x (by rw [List.eq_of_mem_replicate hx]; simp)
section rules
variable {P : Program} [Mixed P] {fn : Func} {Post : Spec} {st : List KI × S} {u m : PH}
theorem G.copyA (dT sT e : TypeId) (sz g n k : Nat) (a : Addr) (sn sc c : Nat) (t : TypeId) (m0 : PH) (es xs : List Value) (h : stopV P (adv P st) = .blt .copy [dT, sT] [.slice (some ⟨g, 0 + k * sz, none⟩) (n - k) c, .slice (some a) sn sc])
  (hu : P.underlying dT = some (.slice e)) (hsz : szB P e = some sz) (ha : ArrAt m0 m (.slice (some ⟨g, 0, none⟩) n n) t sz es) (ho : ElsOK sz xs) (hk : xs.length = Nat.min sn (n - k)) (hkn : k ≤ n)
  (hsrc : ∀ w, Part u w → Part m w → ∀ (j : Nat) (v : Value), (flat xs)[j]? = some v → w.cell? (a.add j) = some v)
  (kk : ∀ m', ArrAt m0 m' (.slice (some ⟨g, 0, none⟩) n n) t sz (es.take k ++ xs ++ es.drop (k + xs.length)) → G P fn Post (nx (adv P st) (.int .i64 ((Nat.min sn (n - k) : Nat) : Int))) u m') : G P fn Post st u m := by
 have hlen := ha.len
 obtain ⟨hoe, h'⟩ := ha
 rcases h' with ⟨h1, _, _⟩ | ⟨g', cap, rest, h1, rfl, h2, h3, h4, h5⟩
 ·simp at h1
 simp only [Value.slice.injEq, Option.some.injEq, Addr.mk.injEq, and_true] at h2
 obtain ⟨rfl, h2, rfl⟩ := h2
 have hr : rest = [] := by
  rw [List.length_append, flat_length hoe, ← h2] at h4
  exact List.eq_nil_of_length_eq_zero (by omega)
 subst hr
 simp only [List.append_nil] at h4 ⊢
 have hmin : Nat.min sn (n - k) ≤ n - k := Nat.min_le_right _ _
 have hfl : (flat xs).length = Nat.min sn (n - k) * sz := by rw [flat_length ho, hk]
 refine G.copyM dT sT e sz g (0 + k * sz) (n - k) c a sn sc t (flat es) (flat xs) h hu hsz (upd_same _ _ _) hfl (by simpa using hsrc) (by rw [hfl, flat_length hoe, ← h2, Nat.zero_add, ← Nat.add_mul]; exact Nat.mul_le_mul_right _ (by omega)) (flat_ok ho) (flat_ok hoe) ?_
 rw [upd_upd]
 refine kk _ ⟨?_, .inr ⟨g, n, [], h1, ?_, ?_, ?_, ?_, by simp⟩⟩
 ·exact ((ElsOK.append (fun x hx => hoe x (List.mem_of_mem_take hx)) ho).append (fun x hx => hoe x (List.mem_of_mem_drop hx)))
 ·congr 3
  rw [Nat.zero_add, flat_take hoe, hfl, ← Nat.add_mul, flat_drop hoe, ← flat_append, ← flat_append, List.append_nil, hk]
 ·congr 1
  simp only [List.length_append, List.length_take, List.length_drop, hk]
  omega
 ·simp only [List.length_append, List.length_take, List.length_drop, hk]
  omega
 ·rw [List.append_nil, flat_length (sz := sz)]
  ·congr 1
   simp only [List.length_append, List.length_take, List.length_drop, hk]
   omega
  ·exact ((ElsOK.append (fun x hx => hoe x (List.mem_of_mem_take hx)) ho).append (fun x hx => hoe x (List.mem_of_mem_drop hx)))
end rules
theorem bitsMul1 {u : PH} {n : Nat} (hn : n ≤ 1000000) : Fn0 Tryz.prog 84 [.int .u64 1, .int .u64 (n : Int)] u fun v _ => v = .tuple #[.int .u64 0, .int .u64 (n : Int)] := by
 refine Fn0.ofW (fun v _ => v = .tuple #[.int .u64 0, .int .u64 (n : Int)]) (fun w _ => (Tryz.bits_Mul 1 n (by omega) (by omega) w).mono fun _ _ ⟨e, h⟩ => ⟨_, e, ?_, by rw [h]; exact Ext.refl _⟩) (fun _ _ _ h _ _ _ => h)
 rw [Nat.one_mul, Nat.div_eq_of_lt (by omega), Nat.mod_eq_of_lt (by omega)]; rfl
theorem u64_wrap {z : Int} (h1 : 0 ≤ z) (h2 : z < 18446744073709551616) : IntKind.u64.wrap z = z := by
 simp only [IntKind.wrap, IntKind.signed, IntKind.bits]; simp; omega
theorem rep_step {e z : Value} {n k q : Nat} (hk : k + q ≤ n) : (List.replicate k e ++ List.replicate (n - k) z).take k ++ List.replicate q e ++ (List.replicate k e ++ List.replicate (n - k) z).drop (k + (List.replicate q e).length) = List.replicate (k + q) e ++ List.replicate (n - (k + q)) z := by
 rw [List.take_left' (by simp), List.length_replicate, List.drop_append, List.drop_of_length_le (by simp), List.length_replicate, List.nil_append, List.drop_replicate, List.replicate_append_replicate]
 congr 2; omega
theorem flat_rep {sz : Nat} {e : Value} {g q k r : Nat} {z : Value} {u m m0 : PH} {t : TypeId} {n : Nat} (ho : ElsOK sz [e]) (hq : q ≤ k) (hsz : 0 < sz) (hA : ArrAt m0 m (.slice (some ⟨g, 0, none⟩) n n) t sz (List.replicate k e ++ List.replicate r z)) :
  ∀ w, Part u w → Part m w → ∀ (j : Nat) (v : Value), (flat (List.replicate q e))[j]? = some v → w.cell? ((⟨g, 0, none⟩ : Addr).add j) = some v := by
 intro w _ hp j v hj
 refine ElsP.cells (u := m) (b := g) (off := 0) hsz (fun i x hi => ?_) (ho.replicate q) hp j v hj
 have hlt : i < q := by
  rcases Nat.lt_or_ge i q with h | h
  ·exact h
  ·rw [List.getElem?_eq_none (by simpa using h)] at hi; cases hi
 have hx : x = e := by rw [List.getElem?_replicate, if_pos hlt] at hi; exact (Option.some.inj hi).symm
 subst hx
 refine hA.el ?_
 rw [List.getElem?_append_left (by simp; omega), List.getElem?_replicate, if_pos (by omega)]
set_option maxHeartbeats 1000000 in
theorem repeatS0 {u : PH} {v e : Value} {n : Nat} (h : ListP u v 1 [e]) (ho : ElsOK 1 [e]) (hn : n ≤ 1000000) :
  Fn0 Tryz.prog 43 [v, .int .i64 (n : Int)] u fun v' u' => ListP u' v' 1 (List.replicate n e) := by
 obtain ⟨a, c, rfl⟩ := h.opn
 have hea := ListP.at' h (j := 0) (e := e) rfl
 obtain ⟨b, off, rfl, hel⟩ := hea
 refine Fn0.of Tryz.func43 (by kernel_rfl) (by kernel_rfl) ?_
 refine G.lssF (n : Int) 0 (by kernel_rfl) (by omega) ?_
 refine G.convI .i64 .u64 .i64 1 1 (by kernel_rfl) (u64_wrap (by omega) (by omega)) ?_
 refine G.convI .i64 .u64 .i64 (n : Int) (n : Int) (by kernel_rfl) (u64_wrap (by omega) (by omega)) ?_
 refine G.call0 _ _ (by kernel_rfl) Tryz.call84 (bitsMul1 hn) ?_
 rintro v1 u1 l1 rfl
 refine G.cmpG .gtr .u64 0 0 false (by kernel_rfl) rfl rfl ?_
 refine G.cmpG .gtr .u64 (n : Int) 9223372036854775807 false (by kernel_rfl) rfl (by simp only [cmpZ, decide_eq_false_iff_not]; omega) ?_
 refine G.convI .u64 .i64 .u64 (n : Int) (n : Int) (by kernel_rfl) (i64_wrap (by omega) (by omega)) ?_
 refine G.make 34 1 16 (.string (mkS [])) n (by kernel_rfl) rfl rfl (by omega) (by omega) (by omega) ?_
 rintro v2 m2 hA ⟨a2, rfl⟩
 obtain ⟨g, rfl, hg⟩ := hA.some'
 have hmn : Nat.min 1 (n - 0) ≤ 1 := Nat.min_le_left _ _
 refine G.copyA 49 49 34 1 g n 0 ⟨b, off, none⟩ 1 c n 34 PH.mt (List.replicate n (.string (mkS []))) (List.replicate (Nat.min 1 (n - 0)) e) (by kernel_rfl) (by kernel_rfl) (by kernel_rfl) hA (ho.replicate _) (by simp) (Nat.zero_le _) (fun w hp _ j x hj => ?_) ?_
 ·refine ElsP.cells (u := u) (b := b) (off := off) (sz := 1) (by omega) (fun i y hi => ?_) (ho.replicate _) (fun g o hg => hp g o (l1 g o hg)) j x hj
  have hlt : i < Nat.min 1 (n - 0) := by
   rcases Nat.lt_or_ge i (Nat.min 1 (n - 0)) with h | h
   ·exact h
   ·rw [List.getElem?_eq_none (by simpa using h)] at hi; cases hi
  rw [List.getElem?_replicate, if_pos hlt] at hi
  have hy : y = e := (Option.some.inj hi).symm
  subst hy
  have : i = 0 := by omega
  subst this
  exact hel
 intro m3 hA3
 have hs3 := rep_step (e := e) (z := .string (mkS [])) (n := n) (k := 0) (q := Nat.min 1 (n - 0)) (by have : Nat.min 1 (n - 0) ≤ n - 0 := Nat.min_le_right _ _; omega)
 simp only [List.replicate_zero, List.nil_append, Nat.sub_zero, Nat.zero_add] at hs3 hA3
 rw [hs3] at hA3
 clear hs3
 refine G.loop (ι := Nat) (fun k => [(7, .v (.slice (some ⟨g, 0, none⟩) n n)), (8, .v (.int .i64 (k : Int)))]) (fun _ => [])
  (fun k u' m' => k ≤ n ∧ (k = 0 → n = 0) ∧ ArrAt PH.mt m' (.slice (some ⟨g, 0, none⟩) n n) 34 1 (List.replicate k e ++ List.replicate (n - k) (.string (mkS [])))) (fun k => n - k) (Nat.min 1 n) (by kernel_rfl) (fun _ => by kernel_rfl) ⟨by kernel_rfl, by kernel_rfl, by kernel_rfl⟩
  ⟨Nat.min_le_right _ _, fun h => by have h' : min 1 n = 0 := h; omega, hA3⟩ ?_
 rintro J k hJ u4 m4 l4 ⟨hk, hk0, hA4⟩
 by_cases hlt : k < n
 ·refine G.lssT (k : Int) (n : Int) (by kernel_rfl) (by omega) ?_
  refine G.sliceFrom g 0 n n k 1 (by kernel_rfl) (by omega) hlt ?_
  refine G.sliceTo 1 (some ⟨g, 0, none⟩) n n k (by kernel_rfl) (by omega) ?_
  have hq1 : Nat.min k (n - k) ≤ k := Nat.min_le_left _ _
  have hq2 : Nat.min k (n - k) ≤ n - k := Nat.min_le_right _ _
  have hq3 : 0 < Nat.min k (n - k) := by show 0 < min k (n - k); omega
  refine G.copyA 49 49 34 1 g n k ⟨g, 0, none⟩ k n (n - k) 34 PH.mt _ (List.replicate (Nat.min k (n - k)) e) (by kernel_rfl) (by kernel_rfl) (by kernel_rfl) hA4 (ho.replicate _) (by simp) hk (flat_rep ho hq1 (by omega) hA4) ?_
  intro m5 hA5
  rw [rep_step (by omega)] at hA5
  generalize Nat.min k (n - k) = q at *
  refine G.add (k : Int) (q : Int) ((k + q : Nat) : Int) (by kernel_rfl) (by omega) (by omega) (by omega) ?_
  exact G.back (by kernel_rfl) (hJ (k + q) _ _ _ ⟨by kernel_rfl, by kernel_rfl, by kernel_rfl⟩ l4 ⟨by omega, by omega, hA5⟩ (by omega))
 ·obtain rfl : k = n := by omega
  refine G.lssF (k : Int) (k : Int) (by kernel_rfl) (by omega) ?_
  rw [Nat.sub_self, List.replicate_zero, List.append_nil] at hA4
  refine G.give PH.mt _ _ (by kernel_rfl) hA4 (fun _ => .inl rfl) ?_
  intro u5 l5 hL
  exact G.ret (.slice (some ⟨g, 0, none⟩) k k) (by kernel_rfl) ⟨rfl, hL⟩
end Go.Proofs.YtpdboaedoimahaaGreatDoor
end
section
namespace Go.Proofs.YtpdboaedoimahaaGreatDoor
end Go.Proofs.YtpdboaedoimahaaGreatDoor
end
section
namespace Go.Proofs.YtpdboaedoimahaaGreatDoor
end Go.Proofs.YtpdboaedoimahaaGreatDoor
end
section
namespace Go.Proofs.YtpdboaedoimahaaGreatDoor
end Go.Proofs.YtpdboaedoimahaaGreatDoor
end
section
namespace Go.Proofs.YtpdboaedoimahaaGreatDoor
end Go.Proofs.YtpdboaedoimahaaGreatDoor
end
section
set_option linter.unusedSectionVars false
set_option linter.unusedVariables false
namespace Go.Proofs.YtpdboaedoimahaaGreatDoor
open Go.RowKit
section rules
variable {P : Program} [Mixed P] {fn : Func} {Post : Spec} {st : List KI × S} {u m : PH}
end rules
theorem ListP.take' {u : PH} {a : Option Addr} {n c sz : Nat} {es : List Value} (h : ListP u (.slice a n c) sz es) (k : Nat) (hk : k ≤ es.length) : ListP u (.slice a k c) sz (es.take k) := by
 obtain ⟨a', c', h1, h2, h3⟩ := h
 simp only [Value.slice.injEq] at h1
 obtain ⟨rfl, _, rfl⟩ := h1
 refine ⟨a, c, by rw [List.length_take, Nat.min_eq_left hk], by rw [List.length_take]; omega, fun j e hj => ?_⟩
 rw [List.getElem?_take] at hj
 split at hj
 ·exact h3 j e hj
 ·cases hj
end Go.Proofs.YtpdboaedoimahaaGreatDoor
end
section
set_option linter.unusedSectionVars false
set_option linter.unusedVariables false
namespace Go.Proofs.YtpdboaedoimahaaGreatDoor
open Go.RowKit
end Go.Proofs.YtpdboaedoimahaaGreatDoor
end
section
set_option linter.unusedSectionVars false
set_option linter.unusedVariables false
namespace Go.Proofs.YtpdboaedoimahaaGreatDoor
open Go.RowKit
theorem Bag.perm {l l' : List Arr} (h : l.Perm l') : ∀ {m : PH}, Bag m l → Bag m l' := by
 induction h with
 | nil => exact fun h => h
 | cons x _ ih => exact fun ⟨m0, h1, h2⟩ => ⟨m0, h1, ih h2⟩
 | swap x y l =>
  rintro m ⟨m1, hy, m0, hx, hl⟩
  obtain ⟨m2, k1, k2, _⟩ := At.swap hy hx
  exact ⟨m2, k2, m0, k1, hl⟩
 | trans _ _ h1 h2 => exact fun h => h2 (h1 h)
section bag
variable {o : Arr} {rows : List (Value × List Value)} {rest : List Arr} {i j n : Nat} {r r' : Value × List Value} {x x' : Arr}
end bag
end Go.Proofs.YtpdboaedoimahaaGreatDoor
end
section
set_option linter.unusedSectionVars false
set_option linter.unusedVariables false
namespace Go.Proofs.YtpdboaedoimahaaGreatDoor
open Go.RowKit
section steps
variable {fn : Func} {Post : Spec} {u m : PH}
end steps
end Go.Proofs.YtpdboaedoimahaaGreatDoor
end
section
set_option linter.unusedSectionVars false
set_option linter.unusedVariables false
namespace Go.Proofs.YtpdboaedoimahaaGreatDoor
open Go.RowKit
end Go.Proofs.YtpdboaedoimahaaGreatDoor
end
section
set_option linter.unusedSectionVars false
set_option linter.unusedVariables false
namespace Go.Proofs.YtpdboaedoimahaaGreatDoor
open Go.RowKit
end Go.Proofs.YtpdboaedoimahaaGreatDoor
end
section
namespace Go.Proofs.YtpdboaedoimahaaGreatDoor
def smallB (q : Rat) : Bool := decide (q.num.natAbs < 10 ^ 100) && decide (q.den < 10 ^ 100)
end Go.Proofs.YtpdboaedoimahaaGreatDoor
end
section
set_option linter.unusedSectionVars false
set_option linter.unusedVariables false
namespace Go.Proofs.YtpdboaedoimahaaGreatDoor
open Go.RowKit
theorem dig_of_lt : ∀ {k n : Nat} (_ : 0 < k) (_ : n < 10 ^ k), Lib.nDigits n ≤ k
 | 0, n, hk, h => by omega
 | k + 1, n, hk, h => by
  by_cases hn : n < 10
  ·rw [Lib.nDigits_small hn]; omega
  ·rw [Lib.nDigits_big hn]
   have hk0 : 0 < k := by
    rcases Nat.eq_zero_or_pos k with h0 | h0
    ·subst h0; simp at h; omega
    ·exact h0
   have := dig_of_lt (k := k) (n := n / 10) hk0 (by rw [Nat.div_lt_iff_lt_mul (by omega), ← Nat.pow_succ]; exact h)
   omega
theorem smallB_spec {q : Rat} (h : smallB q = true) : Tx q ∧ Sz q 12 := by
 simp only [smallB, Bool.and_eq_true, decide_eq_true_eq] at h
 have h1 := dig_of_lt (by omega) h.1
 have h2 := dig_of_lt (by omega) h.2
 have e : (10 : Nat) ^ 100 ≤ 1000000000 ^ 12 := by decide
 exact ⟨⟨by omega, by omega⟩, nl_le_of_lt (Nat.lt_of_lt_of_le h.1 e), nl_le_of_lt (Nat.lt_of_lt_of_le h.2 e)⟩
end Go.Proofs.YtpdboaedoimahaaGreatDoor
end
section
set_option linter.unusedSectionVars false
set_option linter.unusedVariables false
namespace Go.Proofs.YtpdboaedoimahaaGreatDoor
open Go.RowKit
section rules
variable {P : Program} [Mixed P] {fn : Func} {Post : Spec} {st : List KI × S} {u m : PH}
theorem G.buildM (e : TypeId) (sz bt : Nat) (z : Value) (es : List Value) (h : stopV P (adv P st) = .buildS (some (e, sz, bt, z)) es.length (es.zipIdx.map fun p => (p.2, p.1))) (ho : ElsOK sz es) (hzs : z.cells.size = sz) (hsz : 0 < sz) (hn0 : 0 < es.length) (hb : es.length * sz ≤ 16777216)
  (k : ∀ g m', ArrAt m m' (.slice (some ⟨g, 0, none⟩) es.length es.length) e sz es → G P fn Post (nx (adv P st) (.slice (some ⟨g, 0, none⟩) es.length es.length)) u m') : G P fn Post st u m := by
 refine G.big (K := fun v' u' m' => u' = u ∧ PH.le m m' ∧ ∃ g, v' = .slice (some ⟨g, 0, none⟩) es.length es.length ∧ ArrAt m m' (.slice (some ⟨g, 0, none⟩) es.length es.length) e sz es) h (by simp) (fun env op hv => ?_) (.inl fun v u' m' hk => hk.2.1) (fun env o hview w hgd => ?_) (fun v' u' m' hle hk => ?_)
 ·obtain ⟨t, qs, rfl, _⟩ := view_buildS hv; rfl
 ·obtain ⟨t, qs, e1, e2, hi⟩ := view_buildS hview
  obtain ⟨dst, opp, type, pos, after, guard⟩ := o
  simp only at e1; subst e1
  obtain ⟨hu, i, hi1, hi2, rfl, rfl⟩ := elInfo_spec hi
  obtain ⟨g1, g2, g3, g4⟩ := hgd.newM (cs := (flat es).toArray) (t := e) (by simpa using flat_ok ho)
  have hfl := flat_length ho
  have hne : es.length * i.size ≠ 0 := by have := Nat.mul_pos hn0 hsz; omega
  have hfill := fill_els es 0 ((Array.range (es.length * i.size)).map (z.cells[· % z.cells.size]!)) ho (by simp)
  have e0 : ((Array.range (es.length * i.size)).map (z.cells[· % z.cells.size]!)).toList.drop (es.length * i.size) = [] := by
   apply List.drop_eq_nil_of_le; simp
  simp only [Nat.zero_mul, List.take_zero, List.nil_append, Nat.zero_add, e0, List.append_nil] at hfill
  refine does_value (w' := w.alloc (.cells (flat es).toArray e (0, 0))) (v := .slice (some ⟨w.heap.size, 0, none⟩) es.length es.length) ?_ ⟨u, _, g1, g2, rfl, le_upd _ g3, _, rfl, ho, .inr ⟨w.heap.size, es.length, [], g3, by rw [List.append_nil], rfl, Nat.le_refl _, by rw [List.append_nil, hfl], by simp⟩⟩
  simp only [execOp, e2]
  simp [Instr.buildSlice, run_underlying hu, sizeOf, typeInfo, zeroValue, hi1, hi2, hne, hfill, newRow, show ¬ 16777216 < es.length * i.size by omega]
 ·obtain ⟨rfl, _, g, rfl, hk⟩ := hk
  exact k g m' hk
end rules
end Go.Proofs.YtpdboaedoimahaaGreatDoor
end
section
set_option linter.unusedSectionVars false
set_option linter.unusedVariables false
namespace Go.Proofs.YtpdboaedoimahaaGreatDoor
variable [Flag]
open Go.RowKit
section rules
variable {P : Program} [Mixed P] {fn : Func} {Post : Spec} {st : List KI × S} {u m : PH}
theorem view_fieldA {env : Operand → Value} {o : Op} {t : TypeId} {x : Value} {f : Nat} (h : viewOp P env o = .fieldA t x f) : ∃ X, o = .fieldAddr t X f ∧ env X = x := by
 cases o <;> simp only [viewOp] at h <;> try cases h
 any_goals ((repeat' split at h) <;> cases h; done)
 ·exact ⟨_, rfl, rfl⟩
theorem G.fieldA (t : TypeId) (b off f fo : Nat) (h : stopV P (adv P st) = .fieldA t (.pointer (some ⟨b, off, none⟩)) f) (hf : fieldOff P t f = some fo) (k : G P fn Post (nx (adv P st) (.pointer (some ⟨b, off + fo, none⟩))) u m) : G P fn Post st u m := by
 refine G.ask h (by simp) (fun env o hview w _ => ?_) k
 obtain ⟨X, e, e1⟩ := view_fieldA hview
 obtain ⟨dst, opp, type, pos, after, guard⟩ := o
 simp only at e; subst e
 unfold fieldOff at hf
 split at hf
 ·rename_i fs hfs
  split at hf
  ·rename_i fd hfd
   split at hf
   ·rename_i n hn
    simp only [Option.some.injEq] at hf
    subst hf
    simp [execOp, Instr.fieldAt, run_underlying hfs, hfd, Instr.sureAddr, e1, fieldPlace, run_sizeOf' hn, addr_add]
   ·cases hf
  ·cases hf
 ·cases hf
theorem G.remZ (x y z : Int) (h : stopV P (adv P st) = .bin .rem (.int .i64 x) (.int .i64 y)) (hy : 0 < y) (hy2 : y ≤ 9223372036854775807) (hz : x.tmod y = z)
  (k : G P fn Post (nx (adv P st) (.int .i64 z)) u m) : G P fn Post st u m := by
 refine G.bin _ h guard_int (fun t w => ?_) k
 have h4 : ¬ y = 0 := by omega
 have h5 : -y < z ∧ z < y := by
  rw [← hz]
  have a1 := Int.tmod_lt_of_pos x hy
  have a2 := Int.lt_tmod_of_pos x hy
  exact ⟨a2, a1⟩
 simp [binOp, Op.intDiv, h4, hz]
end rules
end Go.Proofs.YtpdboaedoimahaaGreatDoor
end
section
set_option linter.unusedSectionVars false
set_option linter.unusedVariables false
namespace Go.Proofs.YtpdboaedoimahaaGreatDoor
open Go.RowKit
end Go.Proofs.YtpdboaedoimahaaGreatDoor
end
section
set_option linter.unusedSectionVars false
set_option linter.unusedVariables false
namespace Go.Proofs.YtpdboaedoimahaaGreatDoor
open Go.RowKit
theorem or_mt (m : PH) : m.or PH.mt = m := by
 funext g; unfold PH.or; split
 ·rename_i o e; rw [e]
 ·rename_i e; rw [e]; rfl
theorem or_upd (m0 m : PH) {g : Nat} (o : Obj) (h : m0 g = none) : m0.or (m.upd g o) = (m0.or m).upd g o := by
 funext k
 by_cases e : k = g
 ·subst e; rw [PH.or_r h, upd_same, upd_same]
 ·rw [upd_ne _ _ e]
  unfold PH.or; split
  ·rfl
  ·rw [upd_ne _ _ e]
theorem ArrAt.list {m0 m u : PH} {v : Value} {t : TypeId} {sz : Nat} {es : List Value} (h : ArrAt m0 m v t sz es) (hl : PH.le m u) : ListP u v sz es := by
 obtain ⟨ho, h⟩ := h
 rcases h with ⟨rfl, rfl, _⟩ | ⟨g, cap, rest, _, rfl, rfl, hcap, hlen, _⟩
 ·exact ListP.nil _ _ _ _
 ·refine ⟨_, _, rfl, hcap, fun j e hj => ⟨g, 0, rfl, fun i x hx => ⟨_, _, _, hl _ _ (upd_same _ _ _), ?_⟩⟩⟩
  rw [List.getElem?_toArray, Nat.zero_add]
  have := flat_get ho hj hx
  rw [List.getElem?_append_left (by obtain ⟨h, _⟩ := List.getElem?_eq_some_iff.1 this; exact h)]; exact this
theorem Bag.list {l : List Arr} {m u : PH} (h : Bag m l) (hl : PH.le m u) (i : Nat) {x : Arr} (hi : l[i]? = some x) : ListP u x.v x.sz x.es := by
 obtain ⟨m0, hx, _⟩ := h.focus i hi
 exact ArrAt.list hx hl
section rules
variable [Flag] {P : Program} [Mixed P] {fn : Func} {Post : Spec} {st : List KI × S} {u m : PH}
theorem G.callA (f : Nat) (args : List Value) {mf mc : PH} {R : Value → PH → PH → Prop} (h : stopV P (adv P st) = .call f args) (hdr : noDr (adv P st) = true) (hc : ∀ args w, (callFunc f args).run P w = .ok (.enter f args) w) (hm : m = mf.or mc) (hd : Apart mf mc) (c : Contract P f args u mc R)
  (k : ∀ v u' mc', PH.le u u' → R v u' mc' → Apart mf mc' → G P fn Post (nx (adv P st) v) u' (mf.or mc')) : G P fn Post st u m := by
 subst hm
 refine G.bigN (K := fun v u' m' => ∃ mc', m' = mf.or mc' ∧ R v u' mc' ∧ Apart mf mc') h (by simp) hdr view_call_free (fun env o hview w hgd => ?_) (fun v u' m' h1 h2 => ?_)
 ·have hgc : Good u mc w := hgd.less (fun g o hg => by
   cases hx : mf g with
   | some o' => have := (hd g).resolve_left (by rw [hx]; simp); rw [this] at hg; cases hg
   | none => rw [PH.or_r hx]; exact hg)
  refine does_call hview hc w _ (Calls.mono (c w hgc) fun e w' he => ?_)
  obtain ⟨v, u', mc', e1, e2, e3, e4⟩ := he
  obtain ⟨g1, g2⟩ := hgd.frameM hd e2 e3
  refine ⟨v, e1, u', mf.or mc', g1, g2, mc', rfl, e4, fun g => ?_⟩
  cases hx : mf g with
  | none => exact .inl rfl
  | some o =>
   right
   have hlt := lt_of_at (hgd.pm g o (PH.or_l hx))
   exact e3.ms g hlt ((hd g).resolve_left (by rw [hx]; simp))
 ·obtain ⟨mc', rfl, hR, hA⟩ := h2
  exact k v u' mc' h1 hR hA
theorem G.giveP {ma sm : PH} (h : noReg (ctl P 100 st).1 = true) (hm : m = ma.or sm) (ha : Apart ma sm) (h0 : ∀ g, Post.m0 g = none ∨ sm g ≠ none) (k : ∀ u', PH.le u u' → PH.le ma u' → G P fn Post (ctl P 100 st) u' sm) : G P fn Post st u m := by
 subst hm
 refine ⟨ctl_sound 100 st ?_⟩
 rw [Sym.ofNo h]
 intro c ρ a w hm0 hr
 have hap : ∀ g o, ma g = some o → u g = none := fun g o hg => (hr.gd.ap g).resolve_right (by rw [PH.or_l hg]; simp)
 have hsm : ∀ g o, sm g = some o → ma g = none := fun g o hg => (ha g).resolve_right (by rw [hg]; simp)
 have hnew : ∀ g o, ma g = some o → c.w0.heap.size ≤ g := by
  intro g o hg
  rcases Nat.lt_or_ge g c.w0.heap.size with hlt | hge
  ·have hpm : c.m0 g = none := by
    rw [hm0]
    rcases h0 g with e | e
    ·exact e
    ·cases hs : sm g with
     | none => exact absurd hs e
     | some o' => have := hsm g o' hs; rw [this] at hg; cases hg
   have := hr.gr.ms g hlt hpm
   rw [PH.or_l hg] at this; cases this
  ·exact hge
 have hle : PH.le u (ma.or u) := fun g o hg => by
  cases hx : ma g with
  | none => rw [PH.or_r hx]; exact hg
  | some o' => have := hap g o' hx; rw [this] at hg; cases hg
 have hk := (k (ma.or u) hle (fun g o hg => PH.or_l hg)).out
 rw [Sym.ofNo h] at hk
 refine hk c ρ a w hm0 ⟨hr.sz, hr.tm, hr.df.of fun r e _ hu hm => (by
  have hma : ma r = none := (by
   cases hx : ma r with
   | none => rfl
   | some o => rw [PH.or_l hx] at hm; cases hm)
  rw [PH.or_r hma] at hm
  exact ⟨e, by rw [PH.or_r hma]; exact hu, hm⟩), fun kk b hb => ?_, hr.inj, hr.lv, ⟨fun g' o hg => ?_, fun g' o hg => ?_, fun g' => ?_, fun g' cs t' fr j z hg hj => ?_⟩, ⟨hr.gr.sz, hr.gr.old, fun g' hg => ?_, fun g' hg hm => ?_, hr.gr.io, hr.gr.dr⟩⟩
 ·obtain ⟨e1, e2, e3, e4⟩ := hr.box kk b hb
  have hma : ma (ρ kk) = none := by
   cases hx : ma (ρ kk) with
   | none => rfl
   | some o => rw [PH.or_l hx] at e4; cases e4
  rw [PH.or_r hma] at e4
  exact ⟨e1, e2, by rw [PH.or_r hma]; exact e3, e4⟩
 ·cases hx : ma g' with
  | some o' => rw [PH.or_l hx] at hg; cases hg; exact hr.gd.pm g' _ (PH.or_l hx)
  | none => rw [PH.or_r hx] at hg; exact hr.gd.pu g' o hg
 ·exact hr.gd.pm g' o (by rw [PH.or_r (hsm g' o hg)]; exact hg)
 ·cases hx : ma g' with
  | some o' => right; exact (ha g').resolve_left (by rw [hx]; simp)
  | none =>
   rw [PH.or_r hx]
   have := hr.gd.ap g'
   rw [PH.or_r hx] at this; exact this
 ·cases hx : ma g' with
  | some o' =>
   rw [PH.or_l hx, ← hg]
   exact (hr.gd.pm g' _ (PH.or_l hx)).symm
  | none => rw [PH.or_r hx]; exact hr.gd.cl g' cs t' fr j z hg hj
 ·have hx : ma g' = none := by
   cases hx : ma g' with
   | none => rfl
   | some o => have := hnew g' o hx; omega
  rw [PH.or_r hx]; exact hr.gr.us g' hg
 ·have := hr.gr.ms g' hg hm
  cases hx : ma g' with
  | some o => have := hnew g' o hx; omega
  | none => rw [PH.or_r hx] at this; exact this
end rules
structure Src where
 g : Nat
 a : Option Addr
 n : Nat
 c : Nat
def Src.ptr (s : Src) : Value := .pointer (some ⟨s.g, 0, none⟩)
def Src.el (s : Src) (k : Nat) : Value := .agg #[.slice s.a s.n s.c, .int .i64 (k : Int)]
def Src.M (s : Src) (k : Nat) : PH := PH.mt.upd s.g (.cells #[.slice s.a s.n s.c, .int .i64 (k : Int)] 78 (0, 0))
def Src.arr (s : Src) (k : Nat) : Arr := ⟨.slice (some ⟨s.g, 0, none⟩) 1 1, 78, 2, [s.el k]⟩
theorem Src.el_ok (s : Src) (k : Nat) : ElsOK 2 [s.el k] := by
 intro x hx
 simp at hx; subst hx
 exact ⟨rfl, fun y hy => by simp [Src.el, Value.cells] at hy; rcases hy with rfl | rfl <;> rfl⟩
theorem Src.at {s : Src} {k : Nat} {m0 : PH} (h : m0 s.g = none) : (s.arr k).At m0 (m0.or (s.M k)) := by
 refine ⟨s.el_ok k, .inr ⟨s.g, 1, [], h, ?_, rfl, Nat.le_refl _, rfl, by simp⟩⟩
 unfold Src.M
 rw [or_upd _ _ _ h, or_mt]; rfl
theorem Src.split {s : Src} {k : Nat} {m0 m : PH} (h : (s.arr k).At m0 m) : m = m0.or (s.M k) ∧ m0 s.g = none := by
 obtain ⟨_, h⟩ := h
 rcases h with ⟨h, _, _⟩ | ⟨g, cap, rest, h1, rfl, h2, h3, h4, h5⟩
 ·simp [Src.arr] at h
 ·simp only [Src.arr, Value.slice.injEq, Option.some.injEq, Addr.mk.injEq, and_true] at h2
  obtain ⟨rfl, _, rfl⟩ := h2
  have hr : rest = [] := by
   simp [Src.arr, flat, Src.el, Value.cells] at h4
   exact h4
  subst hr
  refine ⟨?_, h1⟩
  unfold Src.M
  rw [or_upd _ _ _ h1, or_mt]; rfl
theorem Src.apart {s : Src} {k : Nat} {m0 : PH} (h : m0 s.g = none) : Apart m0 (s.M k) := fun g => by
 by_cases e : g = s.g
 ·subst e; exact .inl h
 ·right; unfold Src.M; rw [upd_ne _ _ e]; rfl
structure SrcOK (u : PH) (s : Src) (ts : List Int) : Prop where
 list : ListP u (.slice s.a s.n s.c) 1 (intsZ ts)
 n : s.n = ts.length
 le : ts.length ≤ 600
 lo : ∀ t ∈ ts, -9223372036854775808 ≤ t
 hi : ∀ t ∈ ts, t ≤ 9223372036854775807
theorem SrcOK.mono {u u' : PH} {s : Src} {ts : List Int} (h : SrcOK u s ts) (hl : PH.le u u') : SrcOK u' s ts := ⟨h.list.mono hl, h.n, h.le, h.lo, h.hi⟩
theorem Src.cell0 (s : Src) (k : Nat) : ElP (s.M k) s.g (0 + 0) (.slice s.a s.n s.c) := fun i y hy => by
 match i, hy with
 | 0, hy => simp [Value.cells] at hy; subst hy; exact ⟨_, _, _, upd_same _ _ _, rfl⟩
theorem Src.cell1 (s : Src) (k : Nat) : ElP (s.M k) s.g (0 + 1) (.int .i64 (k : Int)) := fun i y hy => by
 match i, hy with
 | 0, hy => simp [Value.cells] at hy; subst hy; exact ⟨_, _, _, upd_same _ _ _, rfl⟩
end Go.Proofs.YtpdboaedoimahaaGreatDoor
end
section
set_option linter.unusedSectionVars false
set_option linter.unusedVariables false
set_option linter.unusedSimpArgs false
namespace Go.Proofs.YtpdboaedoimahaaGreatDoor
open Go.MapKept
structure KeyT (P : Program) (kt : TypeId) {κ : Type} [DecidableEq κ] (enc : κ → Value) : Prop where
 eq : ∀ a b w, (Op.equal kt (enc a) (enc b)).run P w = .ok (decide (a = b)) w
 now : ∃ d, P.underlying kt = some d ∧ ((∀ a b, Instr.sameNow d (enc a) (enc b) = none) ∨ (∀ a b, Instr.sameNow d (enc a) (enc b) = some (decide (a = b))))
 chk : ∀ e a w, (Instr.checkKey e 10000 kt (enc a)).run P w = .ok () w
 bits : ∀ a, Instr.sameBits 10000 (enc a) (enc a) = true
 inj : ∀ a b, enc a = enc b → a = b
def MapO {κ : Type} (enc : κ → Value) (o : Obj) (l : List (κ × Value)) : Prop :=
 ∃ es clock, o = .map es clock ∧ es.toList.map (fun e => (e.key, e.val)) = l.map (fun p => (enc p.1, p.2)) ∧ Stamped es clock
def assoc {κ : Type} [DecidableEq κ] (a : κ) : List (κ × Value) → Option Value
 | [] => none
 | (b, v) :: l => if a = b then some v else assoc a l
def putK {κ : Type} [DecidableEq κ] (a : κ) (x : Value) : List (κ × Value) → List (κ × Value)
 | [] => [(a, x)]
 | (b, v) :: l => if a = b then (b, x) :: l else (b, v) :: putK a x l
def delK {κ : Type} [DecidableEq κ] (a : κ) : List (κ × Value) → List (κ × Value)
 | [] => []
 | (b, v) :: l => if a = b then l else (b, v) :: delK a l
def findK {κ : Type} [DecidableEq κ] (a : κ) : List (κ × Value) → Nat → Option (Nat × Value)
 | [], _ => none
 | (b, v) :: l, i => if a = b then some (i, v) else findK a l (i + 1)
def lookV (z : Value) (r : Option Value) (ok : Bool) : Value := match r with | some v => (if ok then .tuple #[v, .bool true] else v) | none => (if ok then .tuple #[z, .bool false] else z)
theorem nodup_of_map {α β : Type} {f : α → β} {l : List α} (h : (l.map f).Nodup) : l.Nodup := (List.pairwise_map.1 h).imp fun h e => h (by rw [e])
section
variable {κ : Type} [DecidableEq κ] {enc : κ → Value}
theorem findK_val (a : κ) : ∀ (l : List (κ × Value)) (i : Nat), (findK a l i).map (·.2) = assoc a l
 | [], _ => rfl
 | (b, v) :: l, i => by
  unfold findK assoc
  split
  ·rfl
  ·exact findK_val a l (i + 1)
theorem findK_none {a : κ} : ∀ {l : List (κ × Value)} {i : Nat}, findK a l i = none → a ∉ l.map (·.1)
 | [], _, _ => by simp
 | (b, v) :: l, i, h => by
  unfold findK at h
  split at h
  ·cases h
  ·rename_i hne
   simp only [List.map_cons, List.mem_cons, not_or]
   exact ⟨hne, findK_none h⟩
theorem findK_some {a : κ} : ∀ {l : List (κ × Value)} {i j : Nat} {v : Value}, findK a l i = some (j, v) → i ≤ j ∧ l[j - i]? = some (a, v) ∧ (∀ x, putK a x l = l.set (j - i) (a, x)) ∧ delK a l = l.eraseIdx (j - i)
 | [], _, _, _, h => by cases h
 | (b, w) :: l, i, j, v, h => by
  unfold findK at h
  split at h
  ·rename_i e
   simp only [Option.some.injEq, Prod.mk.injEq] at h
   obtain ⟨rfl, rfl⟩ := h
   subst e
   exact ⟨Nat.le_refl _, by simp, fun x => by simp [putK], by simp [delK]⟩
  ·rename_i hne
   obtain ⟨h1, h2, h3, h4⟩ := findK_some h
   have e : j - i = (j - (i + 1)) + 1 := by omega
   refine ⟨by omega, by rw [e, List.getElem?_cons_succ]; exact h2, fun x => ?_, ?_⟩
   ·rw [e, List.set_cons_succ, ← h3 x]; simp [putK, hne]
   ·rw [e, List.eraseIdx_cons_succ, ← h4]; simp [delK, hne]
theorem putK_new {a : κ} : ∀ {l : List (κ × Value)} (x : Value), a ∉ l.map (·.1) → putK a x l = l ++ [(a, x)]
 | [], _, _ => rfl
 | (b, v) :: l, x, h => by
  simp only [List.map_cons, List.mem_cons, not_or] at h
  unfold putK
  rw [if_neg h.1, putK_new x h.2]; rfl
theorem assoc_none {a : κ} : ∀ {l : List (κ × Value)}, assoc a l = none ↔ a ∉ l.map (·.1)
 | [] => by simp [assoc]
 | (b, v) :: l => by
  unfold assoc
  split
  ·rename_i e; simp [e]
  ·rename_i hne; rw [assoc_none]; simp [hne]
variable {P : Program} {kt : TypeId}
theorem run_findAsking (K : KeyT P kt enc) (a : κ) (w : World) : ∀ (es : List MapEntry) (l : List (κ × Value)) (i : Nat), es.map (fun e => (e.key, e.val)) = l.map (fun p => (enc p.1, p.2)) → (Instr.findAsking kt (enc a) es i).run P w = .ok (findK a l i) w
 | [], [], i, _ => by simp [Instr.findAsking, findK]
 | [], _ :: _, _, h => by simp at h
 | _ :: _, [], _, h => by simp at h
 | e :: es, (b, v) :: l, i, h => by
  simp only [List.map_cons, List.cons.injEq, Prod.mk.injEq] at h
  obtain ⟨⟨h1, h2⟩, h3⟩ := h
  unfold Instr.findAsking
  simp only [Sem.run_bind, h1, K.eq, Result.andThen_ok]
  unfold findK
  by_cases e' : a = b
  ·simp [e', h2]
  ·simp only [decide_eq_false e', Bool.false_eq_true, if_false, if_neg e']
   exact run_findAsking K a w es l (i + 1) h3
theorem findNow_is {d : TypeDesc} (hn : ∀ a b, Instr.sameNow d (enc a) (enc b) = some (decide (a = b))) (a : κ) : ∀ (es : List MapEntry) (l : List (κ × Value)) (i : Nat), es.map (fun e => (e.key, e.val)) = l.map (fun p => (enc p.1, p.2)) → Instr.findNow d (enc a) es i = some (findK a l i)
 | [], [], i, _ => by simp [Instr.findNow, findK]
 | [], _ :: _, _, h => by simp at h
 | _ :: _, [], _, h => by simp at h
 | e :: es, (b, v) :: l, i, h => by
  simp only [List.map_cons, List.cons.injEq, Prod.mk.injEq] at h
  obtain ⟨⟨h1, h2⟩, h3⟩ := h
  unfold Instr.findNow findK
  rw [h1, hn]
  by_cases e' : a = b
  ·simp [e', h2]
  ·simp only [decide_eq_false e', if_neg e']
   exact findNow_is hn a es l (i + 1) h3
theorem run_findKey (K : KeyT P kt enc) (a : κ) (w : World) {es : List MapEntry} {l : List (κ × Value)} (h : es.map (fun e => (e.key, e.val)) = l.map (fun p => (enc p.1, p.2))) : (Instr.findKey kt (enc a) es).run P w = .ok (findK a l 0) w := by
 obtain ⟨d, hd, hn⟩ := K.now
 unfold Instr.findKey
 simp only [Sem.run_bind, run_underlying hd, Result.andThen_ok]
 rcases hn with hn | hn
 case inr => rw [findNow_is hn a es l 0 h]; rfl
 cases es with
 | nil =>
  cases l with
  | nil => simp [Instr.findNow, findK]
  | cons => simp at h
 | cons e es =>
  have hf : Instr.findNow d (enc a) (e :: es) 0 = none := by
   cases l with
   | nil => simp at h
   | cons p l =>
    simp only [List.map_cons, List.cons.injEq, Prod.mk.injEq] at h
    unfold Instr.findNow
    rw [h.1.1, hn]
  rw [hf]
  exact run_findAsking K a w _ _ _ h
theorem MapO.empty : MapO enc (.map #[] 0) [] := ⟨#[], 0, rfl, by simp, stamped_empty 0⟩
theorem MapO.nodup {o : Obj} {l : List (κ × Value)} (h : MapO enc o l) : (l.map (·.1)).Nodup := by
 obtain ⟨es, clock, rfl, he, hs⟩ := h
 have h1 : es.toList.map (·.key) = l.map (fun p => enc p.1) := by
  have := congrArg (List.map (·.1)) he
  simpa [Function.comp_def] using this
 have h2 := hs.2.2
 rw [h1] at h2
 have : l.map (fun p => enc p.1) = (l.map (·.1)).map enc := by simp [Function.comp_def]
 rw [this] at h2
 exact nodup_of_map h2
theorem run_lookup (K : KeyT P kt enc) {t et : TypeId} (ht : P.underlying t = some (.map kt et)) {z : Value} (hz : ∀ w, (zeroValue et).run P w = .ok z w) {w : World} {g : Nat} {o : Obj} {l : List (κ × Value)} (hg : w.heap[g]? = some o) (ho : MapO enc o l) (a : κ) (ok : Bool) :
  (Instr.lookup t (.map (some g)) (enc a) ok).run P w = .ok (lookV z (assoc a l) ok) w := by
 obtain ⟨es, clock, rfl, he, hs⟩ := ho
 have hf := run_findKey K a w he
 rw [← findK_val a l 0]
 simp only [Instr.lookup, Sem.run_bind, run_underlying ht, Result.andThen_ok, MapKept.run_getObj_map hg, K.chk, Sem.run_pure, hf]
 cases findK a l 0 with
 | none => simp only [lookV, Option.map_none, Sem.run_bind, hz, Result.andThen_ok, Sem.run_pure]
 | some p => simp only [lookV, Option.map_some, Sem.run_bind, Sem.run_pure, Result.andThen_ok]
theorem run_update (K : KeyT P kt enc) {t et : TypeId} (ht : P.underlying t = some (.map kt et)) {w : World} {g : Nat} {o : Obj} {l : List (κ × Value)} (hg : w.heap[g]? = some o) (ho : MapO enc o l) (a : κ) (x : Value) :
  ∃ o', MapO enc o' (putK a x l) ∧ (Instr.mapUpdate t (.map (some g)) (enc a) x).run P w = .ok () { w with heap := w.heap.setIfInBounds g o' } := by
 obtain ⟨es, clock, rfl, he, hs⟩ := ho
 have hf := run_findKey K a w he
 have hlen : es.toList.length = l.length := by simpa using congrArg List.length he
 cases hfk : findK a l 0 with
 | none =>
  rw [hfk] at hf
  have hn := findK_none hfk
  refine ⟨.map (es.push { key := enc a, val := x, born := clock }) (clock + 1), ⟨_, _, rfl, ?_, stamped_push hs (fun e hm hk => ?_)⟩, ?_⟩
  ·rw [putK_new x hn]; simp only [Array.toList_push, List.map_append, he, List.map_cons, List.map_nil]
  ·obtain ⟨j, hj, rfl⟩ := List.mem_iff_getElem.1 hm
   have := congrArg (fun t => t[j]?) he
   simp only [List.getElem?_map, List.getElem?_eq_getElem hj, Option.map_some] at this
   rw [List.getElem?_eq_getElem (by omega)] at this
   simp only [Option.map_some, Option.some.injEq, Prod.mk.injEq] at this
   rw [this.1] at hk
   exact hn (List.mem_map.2 ⟨_, List.getElem_mem (by omega), K.inj _ _ hk⟩)
  ·simp only [Instr.mapUpdate, Sem.run_bind, run_underlying ht, Result.andThen_ok, MapKept.run_getObj_map hg, K.chk, hf]
   exact MapKept.run_setObj_map _ hg
 | some p =>
  obtain ⟨j, v⟩ := p
  rw [hfk] at hf
  obtain ⟨_, h2, h3, _⟩ := findK_some hfk
  rw [Nat.sub_zero] at h2 h3
  have hjl : j < l.length := (List.getElem?_eq_some_iff.1 h2).1
  have hje : j < es.toList.length := by omega
  obtain ⟨e0, he0⟩ : ∃ e0, es.toList[j]? = some e0 := ⟨_, List.getElem?_eq_getElem hje⟩
  have hek : e0.key = enc a := by
   have := congrArg (fun t => t[j]?) he
   simp only [List.getElem?_map, he0, Option.map_some, h2, Option.some.injEq, Prod.mk.injEq] at this
   exact this.1
  have hej : es[j]? = some e0 := by rw [← Array.getElem?_toList]; exact he0
  refine ⟨.map (es.modify j fun e => { e with key := enc a, val := x }) clock, ⟨_, _, rfl, ?_, stamped_modify hs j _ (fun _ _ => rfl) (fun e _ h => ?_)⟩, ?_⟩
  ·rw [h3 x, List.map_set]
   apply List.ext_getElem?
   intro i
   simp only [List.getElem?_map, Array.getElem?_toList, Array.getElem?_modify, List.getElem?_set]
   have hi := congrArg (fun t => t[i]?) he
   simp only [List.getElem?_map, Array.getElem?_toList] at hi
   by_cases e : j = i
   ·subst e
    rw [if_pos rfl, if_pos rfl, hej, if_pos (by simpa using hjl)]; rfl
   ·rw [if_neg e, if_neg e]; exact hi
  ·rw [hej] at h; cases h; exact hek.symm
  ·have hkey : ((es[j]?).map (·.key)).getD (enc a) = enc a := by rw [hej]; simp [hek]
   simp only [Instr.mapUpdate, Sem.run_bind, run_underlying ht, Result.andThen_ok, MapKept.run_getObj_map hg, K.chk, hf, hkey]
   have hst : (Instr.keyThatStays (enc a) (enc a)).run P w = .ok (enc a) w := by unfold Instr.keyThatStays; rw [if_pos (K.bits a)]; rfl
   rw [hst]
   simp only [Result.andThen_ok]
   exact MapKept.run_setObj_map _ hg
end
end Go.Proofs.YtpdboaedoimahaaGreatDoor
end
section
set_option linter.unusedSectionVars false
set_option linter.unusedVariables false
set_option linter.unusedSimpArgs false
namespace Go.Proofs.YtpdboaedoimahaaGreatDoor
variable [Flag]
open Go.MapKept
inductive MStop where
 | other
 | mk
 | look (t : Option TypeDesc) (x k : Value) (ok : Bool)
 | put (t : Option TypeDesc) (x k v : Value)
 | range (t : Option TypeDesc) (x : Value)
 | next (it : Value)
 | entry (it : Value)
def mview (P : Program) (env : Operand → Value) : Op → MStop
 | .makeMap _ none => .mk
 | .lookup t x i ok => .look (P.underlying t) (env x) (env i) ok
 | .mapUpdate t x k v => .put (P.underlying t) (env x) (env k) (env v)
 | .insert t x k v => .put (P.underlying t) (env x) (env k) (env v)
 | .range t x => .range (P.underlying t) (env x)
 | .next it false => .next (env it)
 | .entry it => .entry (env it)
 | _ => .other
def mstop (P : Program) (st : List KI × S) : MStop :=
 match st.1 with
 | .reg _ ops _ (i :: _) :: _ => match ops[i]? with
  | some o => match dstOK st.2 o && (allV st.2 o.op && notSel o.op) with
   | true => match gv st.2 ops o with
    | some true => mview P (envOf st.2) o.op
    | _ => .other
   | false => .other
  | none => .other
 | _ => .other
def notCells : Obj → Bool
 | .cells .. => false
 | _ => true
section good
variable {u m : PH} {w : World}
def setW (w : World) (g : Nat) (o : Obj) : World := { w with heap := w.heap.setIfInBounds g o }
theorem setW_same {g : Nat} {o o' : Obj} (h : w.heap[g]? = some o) : (setW w g o').heap[g]? = some o' := by
 show (w.heap.setIfInBounds g o')[g]? = _
 rw [Array.getElem?_setIfInBounds_self]; simp [lt_of_at h]
theorem setW_ne {g k : Nat} {o' : Obj} (h : k ≠ g) : (setW w g o').heap[k]? = w.heap[k]? := by
 show (w.heap.setIfInBounds g o')[k]? = _
 rw [Array.getElem?_setIfInBounds_ne (fun e => h e.symm)]
theorem setW_size (g : Nat) (o' : Obj) : (setW w g o').heap.size = w.heap.size := by show (w.heap.setIfInBounds g o').size = _; simp
theorem Good.setO (h : Good u m w) {g : Nat} {o o' : Obj} (hg : m g = some o) (hn : notCells o' = true) : Good u (m.upd g o') (setW w g o') ∧ Grown u m w u (m.upd g o') (setW w g o') := by
  have hb := h.pm g _ hg
  have hug : u g = none := by rcases h.ap g with e | e
                              · exact e
                              · rw [hg] at e; cases e
  refine ⟨⟨fun k o hk => ?_, fun k o hk => ?_, fun k => ?_, fun k cs1 t1 fr1 j z hk hj => ?_⟩, ⟨by rw [setW_size]; exact Nat.le_refl _, fun k hk hm => setW_ne (fun e => by rw [e, hg] at hm; cases hm), fun _ _ => rfl, fun k hk hm => by rw [upd_ne _ _ (fun e => by rw [e, hg] at hm; cases hm)]; exact hm, ⟨rfl, rfl⟩, fun _ => ⟨rfl, Nat.le_refl _⟩⟩⟩
  · rw [setW_ne (fun e => by rw [e, hug] at hk; cases hk)]; exact h.pu k o hk
  · by_cases e : k = g
    · subst e; rw [upd_same] at hk; rw [setW_same hb]; exact hk
    · rw [upd_ne _ _ e] at hk; rw [setW_ne e]; exact h.pm k o hk
  · by_cases e : k = g
    · subst e; exact .inl hug
    · rw [upd_ne _ _ e]; exact h.ap k
  · by_cases e : k = g
    · subst e
      rw [setW_same hb] at hk
      simp only [Option.some.injEq] at hk
      subst hk; cases hn
    · rw [setW_ne e] at hk; exact h.cl k cs1 t1 fr1 j z hk hj
theorem Good.newO (h : Good u m w) {o : Obj} (hn : notCells o = true) : Good u (m.upd w.heap.size o) (w.alloc o) ∧ Grown u m w u (m.upd w.heap.size o) (w.alloc o) ∧ m w.heap.size = none ∧ u w.heap.size = none := by
 have hm : m w.heap.size = none := h.pm.none (Nat.le_refl _)
 have hu : u w.heap.size = none := h.pu.none (Nat.le_refl _)
 refine ⟨⟨fun g o' hg => ?_, fun g o' hg => ?_, fun g => ?_, fun g cs t fr j z hg hj => ?_⟩, ⟨by rw [size_alloc']; omega, fun g hg _ => heap_alloc_lt _ _ hg, fun _ _ => rfl, fun g hg hm => by rw [upd_ne _ _ (by omega)]; exact hm, ⟨rfl, rfl⟩, fun _ => ⟨rfl, Nat.le_refl _⟩⟩, hm, hu⟩
 ·rw [heap_alloc_lt _ _ (h.pu.lt hg)]; exact h.pu g o' hg
 ·by_cases e : g = w.heap.size
  ·subst e; rw [upd_same] at hg; rw [heap_alloc_eq]; exact hg
  ·rw [upd_ne _ _ e] at hg; rw [heap_alloc_lt _ _ (h.pm.lt hg)]; exact h.pm g o' hg
 ·by_cases e : g = w.heap.size
  ·subst e; exact .inl hu
  ·rw [upd_ne _ _ e]; exact h.ap g
 ·by_cases e : g = w.heap.size
  ·subst e
   rw [heap_alloc_eq] at hg
   simp only [Option.some.injEq] at hg
   subst hg; cases hn
  ·have hlt := lt_of_at hg
   rw [size_alloc'] at hlt
   rw [heap_alloc_lt _ _ (by omega)] at hg
   exact h.cl g cs t fr j z hg hj
theorem Good.drewG (h : Good u m w) : Grown u m w u m w.drew := ⟨Nat.le_refl _, fun _ _ _ => rfl, fun _ _ => rfl, fun _ _ h => h, ⟨rfl, rfl⟩, fun _ => ⟨rfl, Nat.le_succ _⟩⟩
end good
section rules
variable {P : Program} [Mixed P] {fn : Func} {Post : Spec} {st : List KI × S} {u m : PH}
theorem mstop_spec {V : MStop} (h : mstop P st = V) (hV : V ≠ .other) : ∃ id ops dr i l k s o, st = (.reg id ops dr (i :: l) :: k, s) ∧ ops[i]? = some o ∧ gv s ops o = some true ∧ dstOK s o = true ∧ allV s o.op = true ∧ notSel o.op = true ∧ mview P (envOf s) o.op = V ∧
  ∀ v, nx st v = (.reg id ops dr l :: k, s.put o.dst (.v v)) := by
 obtain ⟨ks, s⟩ := st
 unfold mstop at h
 simp only at h
 split at h
 ·rename_i id ops dr i l k
  split at h
  ·rename_i o ho
   split at h
   ·rename_i hb
    simp only [Bool.and_eq_true] at hb
    split at h
    ·rename_i hg
     exact ⟨id, ops, dr, i, l, k, s, o, rfl, ho, hg, hb.1, hb.2.1, hb.2.2, h, fun v => by simp [nx, ho]⟩
    ·exact absurd h.symm hV
   ·exact absurd h.symm hV
  ·exact absurd h.symm hV
 ·exact absurd h.symm hV
def isLook : MStop → Bool
 | .look .. => true
 | _ => false
theorem mview_free {env : Operand → Value} {o : Op} {V : MStop} (h : mview P env o = V) (hV : V ≠ .other) (hl : isLook V = false) : freeOp o = false := by
 unfold mview at h
 split at h <;> first | rfl | exact absurd h.symm hV | (rw [← h] at hl; cases hl)
theorem G.bigX {V : MStop} {K : Value → PH → PH → Prop} (h : mstop P (adv P st) = V) (hV : V ≠ .other ∧ isLook V = false) (hk : (∀ v u' m', K v u' m' → PH.le m m') ∨ noDr (adv P st) = true)
  (hr : ∀ env (o : Oper), mview P env o.op = V → ∀ w, Good u m w → OpDoes P env o w fun v w' => ∃ u' m', Good u' m' w' ∧ Grown u m w u' m' w' ∧ K v u' m')
  (k : ∀ v u' m', PH.le u u' → K v u' m' → G P fn Post (nx (adv P st) v) u' m') : G P fn Post st u m := by
 refine G.stp ?_
 obtain ⟨id, ops, dr, i, l, kk, s, o, e, ho, hg, hd, hv, hs, hview, hnx⟩ := mstop_spec h hV.1
 rw [e] at hk ⊢
 refine ⟨?_⟩
 refine Ob.big (K := K) ho hg hd hv hs (mview_free hview hV.1 hV.2) (fun v u' m' hK => ?_) (fun w hgd => hr _ o hview w hgd) (fun v u' m' h1 h2 => ?_)
 ·rcases hk with hk | hk
  ·exact .inl (hk v u' m' hK)
  ·exact .inr (noDr_late ho hk)
 ·have := (k v u' m' h1 h2).out
  rw [hnx] at this
  exact this
theorem does_unit {env : Operand → Value} {o : Oper} {w w' : World} {K : Value → World → Prop} (h : (execOp env o).run P w = .ok .skip w') (hk : K undef w') : OpDoes P env o w K := by
 unfold OpDoes; rw [h]; exact hk
theorem G.mapMk (h : mstop P (adv P st) = .mk) (k : ∀ g, m g = none → u g = none → G P fn Post (nx (adv P st) (.map (some g))) u (m.upd g (.map #[] 0))) : G P fn Post st u m := by
 refine G.bigX (K := fun v u' m' => u' = u ∧ PH.le m m' ∧ ∃ g, m g = none ∧ u g = none ∧ v = .map (some g) ∧ m' = m.upd g (.map #[] 0)) h (by simp [isLook]) (.inl fun v u' m' hk => hk.2.1) (fun env o hview w hgd => ?_) (fun v' u' m' hle hk => ?_)
 ·obtain ⟨dst, opp, type, pos, after, guard⟩ := o
  simp only at hview
  unfold mview at hview
  split at hview <;> try (cases hview; done)
  obtain ⟨g1, g2, g3, g4⟩ := hgd.newO (o := .map #[] 0) rfl
  refine does_value (w' := w.alloc (.map #[] 0)) (v := .map (some w.heap.size)) ?_ ⟨u, _, g1, g2, rfl, le_upd _ g3, w.heap.size, g3, g4, rfl, rfl⟩
  simp [execOp, Instr.makeMap, World.alloc_eq]
 ·obtain ⟨rfl, _, g, h1, h2, rfl, rfl⟩ := hk
  exact k g h1 h2
def zeroB (P : Program) (t : TypeId) : Option Value := match P.info? t with | some i => i.zero | none => none
theorem run_zeroB {t : TypeId} {z : Value} (h : zeroB P t = some z) (w : World) : (zeroValue t).run P w = .ok z w := by
 unfold zeroB at h
 split at h
 ·rename_i i hi
  simp [zeroValue, typeInfo, hi, h]
 ·cases h
variable {κ : Type} [DecidableEq κ] {enc : κ → Value} {kt et : TypeId}
theorem G.mapGet (K : KeyT P kt enc) (z : Value) (g : Nat) (o : Obj) (l : List (κ × Value)) (a : κ) (ok : Bool) (h : mstop P (adv P st) = .look (some (.map kt et)) (.map (some g)) (enc a) ok) (hz : zeroB P et = some z) (hg : u g = some o ∨ m g = some o) (ho : MapO enc o l)
  (k : G P fn Post (nx (adv P st) (lookV z (assoc a l) ok)) u m) : G P fn Post st u m := by
 refine G.stp ?_
 obtain ⟨id, ops, dr, i, l', kk, s, o', e, ho', hgv, hd, hv, hs, hview, hnx⟩ := mstop_spec h (by simp)
 have k := k.out
 rw [hnx] at k
 rw [e]
 have hal : allocOp o'.op = false := by
  unfold mview at hview
  split at hview <;> first | (cases hview; done) | (rename_i e; rw [e]; rfl)
 refine ⟨Ob.ask ho' hgv hd hv hs hal (fun w hp => ?_) k⟩
 obtain ⟨dst, opp, type, pos, after, guard⟩ := o'
 simp only at hview hp
 unfold mview at hview
 split at hview <;> try (cases hview; done)
 rename_i t x i ok'
 simp only [MStop.look.injEq] at hview
 obtain ⟨h1, h2, h3, rfl⟩ := hview
 obtain ⟨pu, pm⟩ := hp rfl
 have hw : w.heap[g]? = some o := hg.elim (pu g o) (pm g o)
 have hr := run_lookup K h1 (fun w => run_zeroB hz w) hw ho a ok'
 simp only [execOp, h2, h3]
 simp [hr]
theorem G.mapHas (K : KeyT P kt enc) (z : Value) (g : Nat) (o : Obj) (l : List (κ × Value)) (a : κ) (x : Value) (h : mstop P (adv P st) = .look (some (.map kt et)) (.map (some g)) (enc a) true) (hz : zeroB P et = some z) (hg : u g = some o ∨ m g = some o) (ho : MapO enc o l) (hx : assoc a l = some x)
  (k : G P fn Post (nx (adv P st) (.tuple #[x, .bool true])) u m) : G P fn Post st u m :=
 G.mapGet K z g o l a true h hz hg ho (by rw [hx]; exact k)
theorem G.mapNot (K : KeyT P kt enc) (z : Value) (g : Nat) (o : Obj) (l : List (κ × Value)) (a : κ) (h : mstop P (adv P st) = .look (some (.map kt et)) (.map (some g)) (enc a) true) (hz : zeroB P et = some z) (hg : u g = some o ∨ m g = some o) (ho : MapO enc o l) (hx : assoc a l = none)
  (k : G P fn Post (nx (adv P st) (.tuple #[z, .bool false])) u m) : G P fn Post st u m :=
 G.mapGet K z g o l a true h hz hg ho (by rw [hx]; exact k)
theorem G.mapPut (K : KeyT P kt enc) (g : Nat) (o : Obj) (l : List (κ × Value)) (a : κ) (x : Value) (h : mstop P (adv P st) = .put (some (.map kt et)) (.map (some g)) (enc a) x) (hdr : noDr (adv P st) = true) (hg : m g = some o) (ho : MapO enc o l)
  (k : ∀ o', MapO enc o' (putK a x l) → G P fn Post (nx (adv P st) undef) u (m.upd g o')) : G P fn Post st u m := by
 refine G.bigX (K := fun v u' m' => u' = u ∧ v = undef ∧ ∃ o', MapO enc o' (putK a x l) ∧ m' = m.upd g o') h (by simp [isLook]) (.inr hdr) (fun env o' hview w hgd => ?_) (fun v' u' m' hle hk => ?_)
 ·obtain ⟨dst, opp, type, pos, after, guard⟩ := o'
  simp only at hview
  have key : ∀ t X A Y, P.underlying t = some (.map kt et) → env X = .map (some g) → env A = enc a → env Y = x → (opp = .mapUpdate t X A Y ∨ opp = .insert t X A Y) → OpDoes P env ⟨dst, opp, type, pos, after, guard⟩ w fun v w' => ∃ u' m', Good u' m' w' ∧ Grown u m w u' m' w' ∧ u' = u ∧ v = undef ∧ ∃ o', MapO enc o' (putK a x l) ∧ m' = m.upd g o' := by
   intro t X A Y h1 h2 h3 h4 he
   have hw : w.heap[g]? = some o := hgd.pm g o hg
   obtain ⟨o', ho', hr⟩ := run_update K h1 hw ho a x
   have hn : notCells o' = true := by obtain ⟨es, c, rfl, _⟩ := ho'; rfl
   obtain ⟨g1, g2⟩ := hgd.setO hg hn
   refine does_unit (w' := setW w g o') ?_ ⟨u, _, g1, g2, rfl, rfl, o', ho', rfl⟩
   rcases he with rfl | rfl
   ·simp only [execOp, h2, h3, h4]
    simp [hr, setW]
   ·simp only [execOp, h2, h3, h4]
    simp [hr, setW]
  unfold mview at hview
  split at hview <;> try (cases hview; done)
  ·simp only [MStop.put.injEq] at hview
   obtain ⟨h1, h2, h3, h4⟩ := hview
   exact key _ _ _ _ h1 h2 h3 h4 (.inl rfl)
  ·simp only [MStop.put.injEq] at hview
   obtain ⟨h1, h2, h3, h4⟩ := hview
   exact key _ _ _ _ h1 h2 h3 h4 (.inr rfl)
 ·obtain ⟨rfl, rfl, o', h1, rfl⟩ := hk
  exact k o' h1
def seenOf (D : List MapEntry) : Array Nat := (D.map (·.born)).toArray
structure ItOK (es : Array MapEntry) (D : List MapEntry) : Prop where
 sub : ∀ e ∈ D, e ∈ es.toList
 nod : (D.map (·.born)).Nodup
theorem ItOK.nil (es : Array MapEntry) : ItOK es [] := ⟨by simp, by simp⟩
theorem G.mapRange (g : Nat) (es : Array MapEntry) (clock : Nat) (kt et : TypeId) (h : mstop P (adv P st) = .range (some (.map kt et)) (.map (some g))) (hg : u g = some (.map es clock) ∨ m g = some (.map es clock))
  (k : ∀ i, m i = none → u i = none → G P fn Post (nx (adv P st) (.pointer (some ⟨i, 0, none⟩))) u (m.upd i (.mapIter (some g) clock (seenOf []) clock))) : G P fn Post st u m := by
 refine G.bigX (K := fun v u' m' => u' = u ∧ PH.le m m' ∧ ∃ i, m i = none ∧ u i = none ∧ v = .pointer (some ⟨i, 0, none⟩) ∧ m' = m.upd i (.mapIter (some g) clock (seenOf []) clock)) h (by simp [isLook]) (.inl fun v u' m' hk => hk.2.1) (fun env o hview w hgd => ?_) (fun v' u' m' hle hk => ?_)
 ·obtain ⟨dst, opp, type, pos, after, guard⟩ := o
  simp only at hview
  unfold mview at hview
  split at hview <;> try (cases hview; done)
  simp only [MStop.range.injEq] at hview
  obtain ⟨h1, h2⟩ := hview
  have hw : w.heap[g]? = some (.map es clock) := hg.elim (hgd.pu g _) (hgd.pm g _)
  obtain ⟨g1, g2, g3, g4⟩ := hgd.newO (o := .mapIter (some g) clock (seenOf []) clock) rfl
  have hr := run_range_map (P := P) w _ kt et g es clock h1 hw
  refine does_value (w' := w.alloc (.mapIter (some g) clock (seenOf []) clock)) (v := .pointer (some ⟨w.heap.size, 0, none⟩)) ?_ ⟨u, _, g1, g2, rfl, le_upd _ g3, w.heap.size, g3, g4, rfl, rfl⟩
  simp only [execOp, h2]
  simp [hr, seenOf]
 ·obtain ⟨rfl, _, i, h1, h2, rfl, rfl⟩ := hk
  exact k i h1 h2
theorem run_chooseN (n : Nat) (hn : 0 < n) (w : World) : ∃ j w1, j < n ∧ (w1 = w ∨ w1 = w.drew) ∧ (choose (.mapNext n)).run P w = .ok j w1 := by
 by_cases hf : n ≤ 1
 ·exact ⟨0, w, hn, .inl rfl, by simp [choose, Sem.run, Question.forced, hf]⟩
 ·exact ⟨_, w.drew, Nat.mod_lt _ hn, .inr rfl, by
   simp only [choose, Sem.run, Question.forced, decide_eq_true_eq, hf, if_false, Question.cut]
   rfl⟩
theorem run_nextG {w : World} {it g : Nat} {es : Array MapEntry} {clock : Nat} {D : List MapEntry} (ty : TypeId) (hi : w.heap[it]? = some (.mapIter (some g) clock (seenOf D) clock)) (hg : w.heap[g]? = some (.map es clock)) (hs : Stamped es clock) :
  ((leftOf es (seenOf D)).size = 0 ∧ (Instr.next (.pointer (some ⟨it, 0, none⟩)) false ty).run P w = .ok (.tuple #[.bool false]) w) ∨
  ∃ e ∈ (leftOf es (seenOf D)).toList, ∃ w1, (w1 = w ∨ w1 = w.drew) ∧ (Instr.next (.pointer (some ⟨it, 0, none⟩)) false ty).run P w = .ok (.tuple #[.bool true, e.key, e.val]) (setW w1 it (.mapIter (some g) clock (seenOf (D ++ [e])) clock)) := by
 have e0 : (seenOf D).push = fun b => (seenOf D).push b := rfl
 have hpush : ∀ e : MapEntry, (seenOf D).push e.born = seenOf (D ++ [e]) := fun e => by simp [seenOf]
 simp only [Instr.next, getObj, Sem.run_bind, Sem.run, hi, hg, Result.andThen, next_test_false (seenOf D) es clock clock hs.1 (Nat.le_refl _), Bool.false_eq_true, if_false]
 have hmem : ∀ x ∈ (leftOf es (seenOf D)).toList, x.born < clock := fun x hx => hs.1 x (mem_left hx).1
 have hL : es.filter (fun e => !(seenOf D).contains e.born) = leftOf es (seenOf D) := rfl
 simp only [hL]
 generalize leftOf es (seenOf D) = L at hmem ⊢
 have e1 : L.filter (fun x => decide (x.born < clock)) = L := Array.filter_eq_self.2 (fun x hx => by simpa using hmem x (by simpa using hx))
 have e2 : L.filter (fun x => decide (x.born ≥ clock)) = #[] := by
  rw [Array.filter_eq_empty_iff]
  intro x hx
  have := hmem x (by simpa using hx)
  simp
  omega
 simp only [e1, e2, Array.append_empty]
 by_cases h0 : L.size = 0
 ·left
  have : L = #[] := Array.eq_empty_of_size_eq_zero h0
  subst this
  refine ⟨rfl, ?_⟩
  simp [choose, Sem.run, Question.forced]
 ·right
  have hne : L.isEmpty = false := by simp [Array.isEmpty, h0]
  simp only [hne, Bool.false_eq_true, if_false, Array.empty_append, Array.size_map]
  obtain ⟨j, w1, hj, hal, hrun⟩ := run_chooseN (P := P) L.size (by omega) w
  refine ⟨L[j], by simp, w1, hal, ?_⟩
  have hi1 : w1.heap[it]? = some (.mapIter (some g) clock (seenOf D) clock) := by rcases hal with rfl | rfl <;> exact hi
  have hset : ∀ o' : Obj, (setObj it o').run P w1 = .ok () (setW w1 it o') := fun o' => by
   simp only [setObj, Sem.run, hi1, setW]
  simp only [hrun, Array.getElem?_map, Array.getElem?_eq_getElem hj, Option.map_some, Sem.run_bind, hset, Result.andThen, hpush]
  rfl
theorem seen_contains (D : List MapEntry) (b : Nat) : (seenOf D).contains b = true ↔ b ∈ D.map (·.born) := by
 unfold seenOf; simp
theorem done_perm {es : Array MapEntry} {clock : Nat} {D : List MapEntry} (hs : Stamped es clock) (hD : ItOK es D) (h : (leftOf es (seenOf D)).size = 0) : D.Perm es.toList := by
 have hnd : es.toList.Nodup := nodup_of_map hs.2.1
 have hdd : D.Nodup := nodup_of_map hD.nod
 refine (List.perm_ext_iff_of_nodup hdd hnd).2 fun e => ⟨hD.sub e, fun he => ?_⟩
 have hem : leftOf es (seenOf D) = #[] := Array.eq_empty_of_size_eq_zero h
 have hc : (seenOf D).contains e.born = true := by
  cases hc : (seenOf D).contains e.born with
  | true => rfl
  | false =>
   have : e ∈ leftOf es (seenOf D) := Array.mem_filter.2 ⟨by simpa using he, by rw [hc]; rfl⟩
   rw [hem] at this; simp at this
 obtain ⟨d, hd, hb⟩ := List.mem_map.1 ((seen_contains D _).1 hc)
 have h1 := find_born e es.toList hs.2.1 he
 have h2 := find_born d es.toList hs.2.1 (hD.sub d hd)
 rw [hb] at h2
 rw [h1] at h2
 have h3 := Option.some.inj h2
 rw [h3]; exact hd
theorem ItOK.snoc {es : Array MapEntry} {D : List MapEntry} (h : ItOK es D) {e : MapEntry} (he : e ∈ (leftOf es (seenOf D)).toList) : ItOK es (D ++ [e]) := by
 obtain ⟨h1, h2⟩ := mem_left he
 refine ⟨fun x hx => ?_, ?_⟩
 ·simp only [List.mem_append, List.mem_singleton] at hx
  rcases hx with hx | rfl
  ·exact h.sub x hx
  ·exact h1
 ·simp only [List.map_append, List.map_cons, List.map_nil]
  refine List.nodup_append.2 ⟨h.nod, by simp, fun a ha b hb => ?_⟩
  simp only [List.mem_singleton] at hb
  subst hb
  rintro rfl
  rw [(seen_contains D _).2 ha] at h2; cases h2
theorem G.mapNext (it g : Nat) (es : Array MapEntry) (clock : Nat) (D : List MapEntry) (h : mstop P (adv P st) = .next (.pointer (some ⟨it, 0, none⟩))) (hdr : noDr (adv P st) = true) (hi : m it = some (.mapIter (some g) clock (seenOf D) clock)) (hg : u g = some (.map es clock) ∨ m g = some (.map es clock)) (hs : Stamped es clock) (hD : ItOK es D)
  (k0 : D.Perm es.toList → G P fn Post (nx (adv P st) (.tuple #[.bool false])) u m)
  (k1 : ∀ e, e ∈ es.toList → ItOK es (D ++ [e]) → G P fn Post (nx (adv P st) (.tuple #[.bool true, e.key, e.val])) u (m.upd it (.mapIter (some g) clock (seenOf (D ++ [e])) clock))) : G P fn Post st u m := by
 refine G.bigX (K := fun v u' m' => u' = u ∧ ((m' = m ∧ v = .tuple #[.bool false] ∧ D.Perm es.toList) ∨ ∃ e, e ∈ es.toList ∧ ItOK es (D ++ [e]) ∧ v = .tuple #[.bool true, e.key, e.val] ∧ m' = m.upd it (.mapIter (some g) clock (seenOf (D ++ [e])) clock))) h (by simp [isLook]) (.inr hdr) (fun env o hview w hgd => ?_) (fun v' u' m' hle hk => ?_)
 ·obtain ⟨dst, opp, type, pos, after, guard⟩ := o
  simp only at hview
  unfold mview at hview
  split at hview <;> try (cases hview; done)
  simp only [MStop.next.injEq] at hview
  have hw : w.heap[g]? = some (.map es clock) := hg.elim (hgd.pu g _) (hgd.pm g _)
  have hwi := hgd.pm it _ hi
  rcases run_nextG (P := P) type hwi hw hs with ⟨h0, hr⟩ | ⟨e, he, w1, hw1, hr⟩
  ·refine does_value (w' := w) (v := .tuple #[.bool false]) ?_ ⟨u, m, hgd, Grown.refl _ _ _, rfl, .inl ⟨rfl, rfl, done_perm hs hD h0⟩⟩
   simp only [execOp, hview]
   simp [hr]
  ·have hgd1 : Good u m w1 := by rcases hw1 with rfl | rfl; exact hgd; exact hgd.drew'
   have hgr1 : Grown u m w u m w1 := by rcases hw1 with rfl | rfl; exact Grown.refl _ _ _; exact hgd.drewG
   obtain ⟨g1, g2⟩ := hgd1.setO (o' := .mapIter (some g) clock (seenOf (D ++ [e])) clock) hi rfl
   refine does_value (w' := setW w1 it (.mapIter (some g) clock (seenOf (D ++ [e])) clock)) (v := .tuple #[.bool true, e.key, e.val]) ?_ ⟨u, _, g1, hgr1.trans g2, rfl, .inr ⟨e, (mem_left he).1, hD.snoc he, rfl, rfl⟩⟩
   simp only [execOp, hview]
   simp [hr]
 ·obtain ⟨rfl, ⟨rfl, rfl, hp⟩ | ⟨e, h1, h2, rfl, rfl⟩⟩ := hk
  ·exact k0 hp
  ·exact k1 e h1 h2
theorem G.mapEntry (it g : Nat) (es : Array MapEntry) (clock : Nat) (D : List MapEntry) (e : MapEntry) (h : mstop P (adv P st) = .entry (.pointer (some ⟨it, 0, none⟩))) (hi : m it = some (.mapIter (some g) clock (seenOf (D ++ [e])) clock)) (hg : u g = some (.map es clock) ∨ m g = some (.map es clock)) (hs : Stamped es clock) (he : e ∈ es.toList)
  (k : G P fn Post (nx (adv P st) (.tuple #[e.key, e.val])) u m) : G P fn Post st u m := by
 refine G.bigX (K := fun v u' m' => u' = u ∧ m' = m ∧ v = .tuple #[e.key, e.val]) h (by simp [isLook]) (.inl fun v u' m' hk => by rw [hk.2.1]; exact PH.le_refl _) (fun env o hview w hgd => ?_) (fun v' u' m' hle hk => ?_)
 ·obtain ⟨dst, opp, type, pos, after, guard⟩ := o
  simp only at hview
  unfold mview at hview
  split at hview <;> try (cases hview; done)
  simp only [MStop.entry.injEq] at hview
  have hw : w.heap[g]? = some (.map es clock) := hg.elim (hgd.pu g _) (hgd.pm g _)
  have hwi := hgd.pm it _ hi
  have hb : (seenOf (D ++ [e])).back? = some e.born := by simp [seenOf]
  have hf : es.find? (fun x => x.born == e.born) = some e := by rw [← Array.find?_toList]; exact find_born e es.toList hs.2.1 he
  have hr : (Instr.entry (.pointer (some ⟨it, 0, none⟩))).run P w = .ok (.tuple #[e.key, e.val]) w := by
   simp only [Instr.entry, getObj, Sem.run_bind, Sem.run, hwi, hw, Result.andThen, hb, bne_self_eq_false, Bool.false_eq_true, if_false, hf]
   rfl
  refine does_value (w' := w) ?_ ⟨u, m, hgd, Grown.refl _ _ _, rfl, rfl, rfl⟩
  simp only [execOp, hview]
  simp [hr]
 ·obtain ⟨rfl, rfl, rfl⟩ := hk
  exact k
end rules
end Go.Proofs.YtpdboaedoimahaaGreatDoor
end
section
set_option linter.unusedSectionVars false
set_option linter.unusedVariables false
set_option linter.unusedSimpArgs false
namespace Go.Proofs.YtpdboaedoimahaaGreatDoor
variable [Flag]
def blk1 (g : Nat) (o : Obj) : PH := PH.mt.upd g o
def PH.del (m : PH) (g : Nat) : PH := fun h => if h = g then none else m h
theorem blk1_same (g : Nat) (o : Obj) : blk1 g o g = some o := upd_same _ _ _
theorem blk1_ne {g h : Nat} (o : Obj) (hn : h ≠ g) : blk1 g o h = none := by unfold blk1; rw [upd_ne _ _ hn]; rfl
theorem split_one {m : PH} {g : Nat} {o : Obj} (h : m g = some o) : m = (m.del g).or (blk1 g o) ∧ Apart (m.del g) (blk1 g o) := by
 constructor
 ·funext k
  by_cases e : k = g
  ·subst e
   rw [PH.or_r (by simp [PH.del]), blk1_same, h]
  ·cases hk : m k with
   | none => rw [PH.or_r (by simp [PH.del, e, hk]), blk1_ne o e]
   | some p => rw [PH.or_l (o := p) (by simp [PH.del, e, hk])]
 ·intro k
  by_cases e : k = g
  ·left; simp [PH.del, e]
  ·right; exact blk1_ne o e
theorem join_one {m : PH} {g : Nat} {o : Obj} : (m.del g).or (blk1 g o) = m.upd g o := by
 funext k
 by_cases e : k = g
 ·subst e; rw [PH.or_r (by simp [PH.del]), blk1_same, upd_same]
 ·rw [upd_ne _ _ e]
  cases hk : m k with
  | none => rw [PH.or_r (by simp [PH.del, e, hk]), blk1_ne o e]
  | some p => rw [PH.or_l (o := p) (by simp [PH.del, e, hk])]
section
variable {P : Program} [Mixed P] {fn : Func} {Post : Spec} {st : List KI × S} {u m : PH}
theorem G.callG (f : Nat) (args : List Value) {g : Nat} {o : Obj} {R : Value → PH → Obj → Prop} (h : stopV P (adv P st) = .call f args) (hdr : noDr (adv P st) = true) (hc : ∀ args w, (callFunc f args).run P w = .ok (.enter f args) w) (hg : m g = some o)
  (c : Contract P f args u (blk1 g o) (fun v u' m' => ∃ o', m' = blk1 g o' ∧ R v u' o')) (k : ∀ v u' o', PH.le u u' → R v u' o' → G P fn Post (nx (adv P st) v) u' (m.upd g o')) : G P fn Post st u m := by
 obtain ⟨h1, h2⟩ := split_one hg
 refine G.callA f args h hdr hc h1 h2 c ?_
 rintro v u' m' hl ⟨o', rfl, hR⟩ _
 rw [join_one]
 exact k v u' o' hl hR
theorem Contract.giveAll {f : FuncId} {args : List Value} {R : Value → PH → PH → Prop} (c : Contract P f args u PH.mt R) : Fn0 P f args u (fun v u' => ∃ u1 m1, PH.le u1 u' ∧ PH.le m1 u' ∧ R v u1 m1) := by
 intro w hg
 refine Calls.mono (c w hg) fun e w' he => ?_
 obtain ⟨v, u', m', e1, e2, e3, e4⟩ := he
 have hle : PH.le u' (m'.or u') := fun g o hh => by
  cases hx : m' g with
  | none => rw [PH.or_r hx]; exact hh
  | some p => have := (e2.ap g).resolve_right (by rw [hx]; simp); rw [this] at hh; cases hh
 refine ⟨v, m'.or u', PH.mt, e1, ⟨fun g o hh => ?_, Part.mt _, fun g => .inr rfl, fun g cs t fr j z hh hj => ?_⟩, ⟨e3.sz, e3.old, fun g hgl => ?_, fun _ _ _ => rfl, e3.io, e3.dr⟩, rfl, u', m', hle, fun g o hh => PH.or_l hh, e4⟩
 ·cases hx : m' g with
  | none => rw [PH.or_r hx] at hh; exact e2.pu g o hh
  | some p => rw [PH.or_l hx] at hh; cases hh; exact e2.pm g _ hx
 ·exact hle g _ (e2.cl g cs t fr j z hh hj)
 ·rw [PH.or_r (e3.ms g hgl rfl)]; exact e3.us g hgl
end
abbrev SlI : Type := Option Addr × Nat × Nat
section
variable {κ : Type} [DecidableEq κ] {enc : κ → Value} {R : PH → Value → Rat → Prop} {nz : Bool} {u : PH} {o : Obj} {f : κ → Rat} {N s : Nat}
theorem assoc_mem {a : κ} : ∀ {l : List (κ × Value)} {v : Value}, assoc a l = some v → (a, v) ∈ l
 | (b, w) :: l, v, h => by
  unfold assoc at h
  split at h
  ·rename_i e; cases h; rw [e]; simp
  ·exact List.mem_cons_of_mem _ (assoc_mem h)
theorem assoc_of_mem {a : κ} : ∀ {l : List (κ × Value)} {v : Value}, (l.map (·.1)).Nodup → (a, v) ∈ l → assoc a l = some v
 | (b, w) :: l, v, hn, h => by
  simp only [List.map_cons, List.nodup_cons] at hn
  unfold assoc
  rcases List.mem_cons.1 h with e | e
  ·cases e; rw [if_pos rfl]
  ·have : a ≠ b := fun e' => hn.1 (by rw [← e']; exact List.mem_map.2 ⟨_, e, rfl⟩)
   rw [if_neg this]; exact assoc_of_mem hn.2 e
theorem mem_putK {a : κ} {x : Value} : ∀ {l : List (κ × Value)} {p : κ × Value}, (l.map (·.1)).Nodup → p ∈ putK a x l → p = (a, x) ∨ (p ∈ l ∧ p.1 ≠ a)
 | [], p, _, h => by simp [putK] at h; exact .inl h
 | (b, w) :: l, p, hn, h => by
  simp only [List.map_cons, List.nodup_cons] at hn
  unfold putK at h
  split at h
  ·rename_i e
   subst e
   rcases List.mem_cons.1 h with h | h
   ·exact .inl h
   ·refine .inr ⟨List.mem_cons_of_mem _ h, fun e' => hn.1 ?_⟩
    rw [← e']; exact List.mem_map.2 ⟨p, h, rfl⟩
  ·rename_i e
   rcases List.mem_cons.1 h with h | h
   ·subst h; exact .inr ⟨by simp, fun e' => e e'.symm⟩
   ·rcases mem_putK hn.2 h with h | ⟨h, h'⟩
    ·exact .inl h
    ·exact .inr ⟨List.mem_cons_of_mem _ h, h'⟩
theorem keys_putK {a : κ} {x : Value} {k : κ} : ∀ {l : List (κ × Value)}, k ∈ (putK a x l).map (·.1) ↔ k = a ∨ k ∈ l.map (·.1)
 | [] => by simp [putK]
 | (b, w) :: l => by
  unfold putK
  split
  ·rename_i e; subst e; simp
  ·simp only [List.map_cons, List.mem_cons, keys_putK (l := l)]
   constructor
   ·rintro (h | h | h)
    ·exact .inr (.inl h)
    ·exact .inl h
    ·exact .inr (.inr h)
   ·rintro (h | h | h)
    ·exact .inr (.inl h)
    ·exact .inl h
    ·exact .inr (.inr h)
theorem length_putK {a : κ} {x : Value} : ∀ {l : List (κ × Value)}, (putK a x l).length ≤ l.length + 1
 | [] => by simp [putK]
 | (b, w) :: l => by
  unfold putK
  split
  ·simp
  ·have := length_putK (a := a) (x := x) (l := l); simp; omega
def setF (f : κ → Rat) (a : κ) (q : Rat) : κ → Rat := fun k => if k = a then q else f k
end
end Go.Proofs.YtpdboaedoimahaaGreatDoor
end
section
set_option linter.unusedVariables false
set_option linter.unusedSimpArgs false
namespace Go.Proofs.YtpdboaedoimahaaGreatDoor
abbrev Par := Int × List UInt8
theorem bl_irr : ∀ a : List UInt8, Op.bytesLess a a = false
 | [] => rfl
 | x :: a => by unfold Op.bytesLess; rw [bl_irr a]; simp
theorem bl_trans : ∀ {a b c : List UInt8}, Op.bytesLess a b = true → Op.bytesLess b c = true → Op.bytesLess a c = true
 | _, [], _, h, _ => by simp [Op.bytesLess] at h
 | _, _ :: _, [], _, k => by simp [Op.bytesLess] at k
 | [], _ :: _, _ :: _, _, _ => rfl
 | x :: a, y :: b, z :: c, h, k => by
  unfold Op.bytesLess at h k ⊢
  simp only [Bool.or_eq_true, decide_eq_true_eq, Bool.and_eq_true, beq_iff_eq] at h k ⊢
  rcases h with h | ⟨rfl, h⟩
  ·rcases k with k | ⟨rfl, k⟩
   ·exact .inl (UInt8.lt_trans h k)
   ·exact .inl h
  ·rcases k with k | ⟨rfl, k⟩
   ·exact .inl k
   ·exact .inr ⟨rfl, bl_trans h k⟩
theorem bl_tri : ∀ {a b : List UInt8}, Op.bytesLess a b = false → Op.bytesLess b a = false → a = b
 | [], [], _, _ => rfl
 | [], _ :: _, h, _ => by simp [Op.bytesLess] at h
 | _ :: _, [], _, k => by simp [Op.bytesLess] at k
 | x :: a, y :: b, h, k => by
  unfold Op.bytesLess at h k
  simp only [Bool.or_eq_false_iff, decide_eq_false_iff_not, Bool.and_eq_false_iff, beq_eq_false_iff_ne] at h k
  have hxy : x = y := by
   rcases Nat.lt_trichotomy x.toNat y.toNat with e | e | e
   ·exact absurd (UInt8.lt_iff_toNat_lt.2 e) h.1
   ·exact UInt8.toNat_inj.1 e
   ·exact absurd (UInt8.lt_iff_toNat_lt.2 e) k.1
  subst hxy
  have h2 := h.2.resolve_left (fun e => e rfl)
  have k2 := k.2.resolve_left (fun e => e rfl)
  rw [bl_tri h2 k2]
def cmpS (a b : List UInt8) : Int := if Op.bytesLess a b then -1 else if a = b then 0 else 1
def cmpI (x y : Int) : Int := if x < y then -1 else if y < x then 1 else 0
def cmpP (a b : Par) : Int := if cmpI a.1 b.1 ≠ 0 then cmpI a.1 b.1 else cmpS a.2 b.2
def cmpQ (a b : Par × Par) : Int := if cmpP a.1 b.1 ≠ 0 then cmpP a.1 b.1 else cmpP a.2 b.2
structure Ord {κ : Type} (c : κ → κ → Int) : Prop where
 refl : ∀ a, c a a = 0
 eq : ∀ a b, c a b = 0 → a = b
 sym : ∀ a b, c a b < 0 ↔ 0 < c b a
 trans : ∀ a b d, c a b < 0 → c b d < 0 → c a d < 0
theorem ordS : Ord cmpS := by
 refine ⟨fun a => by simp [cmpS, bl_irr], fun a b h => ?_, fun a b => ?_, fun a b d h k => ?_⟩
 ·unfold cmpS at h
  split at h
  ·cases h
  ·split at h
   ·assumption
   ·cases h
 ·unfold cmpS
  by_cases h : Op.bytesLess a b = true
  ·rw [if_pos h]
   have h2 : ¬ (Op.bytesLess b a = true) := fun k => by have := bl_trans h k; rw [bl_irr] at this; cases this
   have h3 : ¬ (b = a) := fun e => by rw [e, bl_irr] at h; cases h
   rw [if_neg h2, if_neg h3]; omega
  ·rw [if_neg h]
   constructor
   ·intro k; split at k <;> omega
   ·intro k
    by_cases h2 : Op.bytesLess b a = true
    ·rw [if_pos h2] at k; omega
    ·rw [if_neg h2] at k
     have := bl_tri (Bool.eq_false_iff.2 h2) (Bool.eq_false_iff.2 h)
     rw [if_pos this] at k; omega
 ·have h1 : Op.bytesLess a b = true := by
   unfold cmpS at h
   split at h
   ·assumption
   ·split at h <;> omega
  have k1 : Op.bytesLess b d = true := by
   unfold cmpS at k
   split at k
   ·assumption
   ·split at k <;> omega
  unfold cmpS; rw [if_pos (bl_trans h1 k1)]; omega
theorem ordI : Ord cmpI := by
 refine ⟨fun a => by simp [cmpI], fun a b h => ?_, fun a b => ?_, fun a b d h k => ?_⟩
 all_goals unfold cmpI at *
 ·split at h <;> (try split at h) <;> omega
 ·split <;> split <;> (try split) <;> omega
 ·split at h <;> split at k <;> (try split at h) <;> (try split at k) <;> split <;> (try split) <;> omega
theorem Ord.lex {α β : Type} {c : α → α → Int} {d : β → β → Int} (h : Ord c) (k : Ord d) : Ord (fun (a b : α × β) => if c a.1 b.1 ≠ 0 then c a.1 b.1 else d a.2 b.2) := by
 refine ⟨fun a => by simp [h.refl, k.refl], fun a b e => ?_, fun a b => ?_, fun a b x e f => ?_⟩
 ·by_cases h0 : c a.1 b.1 = 0
  ·simp only [h0, ne_eq, not_true, if_false] at e
   exact Prod.ext (h.eq _ _ h0) (k.eq _ _ e)
  ·simp only [h0, ne_eq, not_false_eq_true, if_true] at e
 ·have h1 := h.sym a.1 b.1
  have h2 := h.sym b.1 a.1
  by_cases h0 : c a.1 b.1 = 0
  ·have e := h.eq _ _ h0
   have h3 : c b.1 a.1 = 0 := by rw [← e]; exact h.refl _
   simp only [h0, h3, ne_eq, not_true, if_false]
   exact k.sym _ _
  ·have h3 : c b.1 a.1 ≠ 0 := fun h4 => h0 (by rw [h.eq _ _ h4]; exact h.refl _)
   simp only [h0, h3, ne_eq, not_false_eq_true, if_true]
   exact h1
 ·have g : ∀ y z : α × β, (if c y.1 z.1 ≠ 0 then c y.1 z.1 else d y.2 z.2) < 0 ↔ (c y.1 z.1 < 0 ∨ (y.1 = z.1 ∧ d y.2 z.2 < 0)) := fun y z => by
   by_cases h0 : c y.1 z.1 = 0
   ·have e := h.eq _ _ h0
    simp only [h0, ne_eq, not_true, if_false]
    constructor
    ·intro hh; exact .inr ⟨e, hh⟩
    ·rintro (hh | ⟨_, hh⟩)
     ·omega
     ·exact hh
   ·simp only [h0, ne_eq, not_false_eq_true, if_true]
    constructor
    ·intro hh; exact .inl hh
    ·rintro (hh | ⟨e', _⟩)
     ·exact hh
     ·exact absurd (by rw [e']; exact h.refl _) h0
  have e' := (g a b).1 e
  have f' := (g b x).1 f
  refine (g a x).2 ?_
  rcases e' with e' | ⟨e1, e2⟩
  ·rcases f' with f' | ⟨f1, f2⟩
   ·exact .inl (h.trans _ _ _ e' f')
   ·rw [← f1]; exact .inl e'
  ·rcases f' with f' | ⟨f1, f2⟩
   ·rw [e1]; exact .inl f'
   ·exact .inr ⟨e1.trans f1, k.trans _ _ _ e2 f2⟩
theorem ordP : Ord cmpP := Ord.lex ordI ordS
theorem ordQ : Ord cmpQ := Ord.lex ordP ordP
section
variable {κ : Type} {c : κ → κ → Int}
def SortK (c : κ → κ → Int) (l : List κ) : Prop := l.Pairwise fun a b => c a b < 0
theorem Ord.irr (h : Ord c) (a : κ) : ¬ c a a < 0 := by rw [h.refl]; omega
theorem SortK.nodup (h : Ord c) {l : List κ} (hs : SortK c l) : l.Nodup := hs.imp fun hh e => by rw [e] at hh; exact h.irr _ hh
structure Can (c : κ → κ → Int) (f : κ → Rat) (l : List (κ × Rat)) : Prop where
 srt : SortK c (l.map (·.1))
 val : ∀ p ∈ l, p.2 = f p.1 ∧ p.2 ≠ 0
 out : ∀ k, k ∉ l.map (·.1) → f k = 0
end
structure CF where
 c : Rat
 s : Par → Rat
 t : Par × Par → Rat
def pairP (p q : Par) : Par × Par := if 0 < cmpP p q then (q, p) else (p, q)
theorem pairP_comm (p q : Par) : pairP p q = pairP q p := by
 unfold pairP
 have h1 := ordP.sym p q
 have h2 := ordP.sym q p
 by_cases h : 0 < cmpP p q
 ·rw [if_pos h, if_neg (by omega)]
 ·rw [if_neg h]
  by_cases h' : 0 < cmpP q p
  ·rw [if_pos h']
  ·rw [if_neg h']
   have := ordP.eq p q (by omega)
   rw [this]
def CF.zero : CF := ⟨0, fun _ => 0, fun _ => 0⟩
def CF.add (a b : CF) : CF := ⟨a.c + b.c, fun p => a.s p + b.s p, fun q => a.t q + b.t q⟩
def CF.scale (k : Rat) (a : CF) : CF := ⟨a.c * k, fun p => a.s p * k, fun q => a.t q * k⟩
def crossP (a b : CF) (q : Par × Par) : Rat := if 0 < cmpP q.1 q.2 then 0 else if q.1 = q.2 then 2 * (a.s q.1 * b.s q.1) else a.s q.1 * b.s q.2 + a.s q.2 * b.s q.1
def CF.mul (a b : CF) : CF := ⟨a.c * b.c, fun p => b.s p * a.c + a.s p * b.c, fun q => b.t q * a.c + a.t q * b.c + crossP a b q⟩
theorem CF.ext' {a b : CF} (h1 : a.c = b.c) (h2 : ∀ p, a.s p = b.s p) (h3 : ∀ q, a.t q = b.t q) : a = b := by
 cases a; cases b; simp only at h1 h2 h3
 rw [h1, funext h2, funext h3]
theorem CF.add_comm (a b : CF) : a.add b = b.add a := CF.ext' (by simp only [CF.add]; grind) (fun p => by simp only [CF.add]; grind) (fun q => by simp only [CF.add]; grind)
theorem cross_comm (a b : CF) (q : Par × Par) : crossP a b q = crossP b a q := by
 unfold crossP; split
 ·rfl
 ·split <;> grind
theorem CF.mul_comm (a b : CF) : a.mul b = b.mul a := CF.ext' (by simp only [CF.mul]; grind) (fun p => by simp only [CF.mul]; grind) (fun q => by simp only [CF.mul]; rw [cross_comm]; grind)
theorem CF.mul_zero (a : CF) : a.mul CF.zero = CF.zero := by
 refine CF.ext' (by simp only [CF.mul, CF.zero]; grind) (fun p => by simp only [CF.mul, CF.zero]; grind) (fun q => ?_)
 simp only [CF.mul, CF.zero, crossP]
 split
 ·grind
 ·split <;> grind
theorem CF.add_zero (a : CF) : a.add CF.zero = a := CF.ext' (by simp only [CF.add, CF.zero]; grind) (fun p => by simp only [CF.add, CF.zero]; grind) (fun q => by simp only [CF.add, CF.zero]; grind)
end Go.Proofs.YtpdboaedoimahaaGreatDoor
end
section
set_option linter.unusedSectionVars false
set_option linter.unusedVariables false
set_option linter.unusedSimpArgs false
namespace Go.Proofs.YtpdboaedoimahaaGreatDoor
def parV (p : Par) : Value := .agg #[.int .i64 p.1, .string (mkS p.2)]
def prV (q : Par × Par) : Value := .agg #[.int .i64 q.1.1, .string (mkS q.1.2), .int .i64 q.2.1, .string (mkS q.2.2)]
def fldOf (f : Field) : Bool × TypeId × Nat := (f.name != "_", f.type, f.offset)
section
variable {P : Program}
theorem run_part1 {t : TypeId} {xs : Array Value} {o : Nat} {v : Value} (h : aggB P t = some false) (hv : xs[o]? = some v) (w : World) : (part t xs o).run P w = .ok v w := by
 simp [part, run_isAgg' h, hv]
theorem run_partN {t : TypeId} {n : Nat} {xs : Array Value} {o : Nat} (h : aggB P t = some true) (hn : szB P t = some n) (w : World) : (part t xs o).run P w = .ok (.agg (xs.extract o (o + n))) w := by
 simp [part, run_isAgg' h, run_sizeOf' hn]
theorem und_of_agg {t : TypeId} {k : IntKind} (h : P.underlying t = some (.int k)) : aggB P t = some false := by unfold aggB; rw [h]
theorem und_of_str {t : TypeId} (h : P.underlying t = some .string) : aggB P t = some false := by unfold aggB; rw [h]
theorem mkS_beq (a b : List UInt8) : ((mkS a).toList == (mkS b).toList) = decide (a = b) := bytes_beq a b
theorem twoList {A B : Type} {h : A → B} {fs : List A} {x y : B} (hf : fs.map h = [x, y]) : ∃ f g, fs = [f, g] := by
 have h0 := congrArg List.length hf
 simp only [List.length_map, List.length_cons, List.length_nil] at h0
 match fs, h0 with
 | [f, g], _ => exact ⟨f, g, rfl⟩
theorem run_eq_par {t ti ts : TypeId} {k : IntKind} (hf : (P.fieldsOf t).toList.map fldOf = [(true, ti, 0), (true, ts, 1)]) (ht : P.underlying t = some (.struct (P.fieldsOf t))) (hp : P.stoodInHeld t = false) (hi : P.underlying ti = some (.int k)) (hs : P.underlying ts = some .string) (d : Nat) (a b : Par) (w : World) :
  (Op.equalIn (d + 2) t (parV a) (parV b)).run P w = .ok (decide (a = b)) w := by
 unfold parV
 rw [run_equalIn_struct w (d + 1) t _ _ ht hp]
 generalize (P.fieldsOf t).toList = fs at hf
 obtain ⟨f, g, hfs⟩ := twoList hf
 subst hfs
 ·simp only [List.map_cons, List.map_nil, List.cons.injEq, fldOf, Prod.mk.injEq, bne_iff_ne, ne_eq, and_true] at hf
  obtain ⟨⟨n1, rfl, o1⟩, n2, rfl, o2⟩ := hf
  obtain ⟨a1, a2⟩ := a
  obtain ⟨b1, b2⟩ := b
  simp only [Op.eqFields, ne_eq, n1, n2, not_false_eq_true, if_true, Sem.run_bind]
  rw [run_part1 (und_of_agg hi) (v := .int .i64 a1) (by rw [o1]; rfl), Result.andThen_ok, run_part1 (und_of_agg hi) (v := .int .i64 b1) (by rw [o1]; rfl), Result.andThen_ok, run_equalIn_int w d _ _ _ _ _ hi, Result.andThen_ok]
  by_cases e : a1 = b1
  ·subst e
   simp only [beq_self_eq_true, Bool.not_true, Bool.false_eq_true, if_false, Sem.run_bind]
   rw [run_part1 (und_of_str hs) (v := .string (mkS a2)) (by rw [o2]; rfl), Result.andThen_ok, run_part1 (und_of_str hs) (v := .string (mkS b2)) (by rw [o2]; rfl), Result.andThen_ok, run_equalIn_string w d _ _ _ hs, Result.andThen_ok, mkS_beq]
   by_cases e2 : a2 = b2
   ·subst e2; simp
   ·simp [e2]
  ·have : (a1 == b1) = false := by simpa using e
   simp [this, e]
theorem run_chk_leaf {t : TypeId} (h : (∃ k, P.underlying t = some (.int k)) ∨ P.underlying t = some .string) (e : Bool) (d : Nat) (v : Value) (w : World) : (Instr.checkKey e (d + 1) t v).run P w = .ok () w := by
 unfold Instr.checkKey
 rcases h with ⟨k, h⟩ | h <;> simp [run_underlying h]
theorem run_chk_par {t ti ts : TypeId} {k : IntKind} (hf : (P.fieldsOf t).toList.map fldOf = [(true, ti, 0), (true, ts, 1)]) (ht : P.underlying t = some (.struct (P.fieldsOf t))) (hi : P.underlying ti = some (.int k)) (hs : P.underlying ts = some .string) (e : Bool) (d : Nat) (a : Par) (w : World) :
  (Instr.checkKey e (d + 2) t (parV a)).run P w = .ok () w := by
 unfold parV
 rw [Instr.checkKey]
 simp only [Sem.run_bind, run_underlying ht, Result.andThen_ok]
 rw [← Array.forIn_toList]
 generalize (P.fieldsOf t).toList = fs at hf
 obtain ⟨f, g, hfs⟩ := twoList hf
 subst hfs
 ·simp only [List.map_cons, List.map_nil, List.cons.injEq, fldOf, Prod.mk.injEq, bne_iff_ne, ne_eq, and_true] at hf
  obtain ⟨⟨n1, e1, o1⟩, n2, e2, o2⟩ := hf
  simp only [List.forIn_cons, List.forIn_nil, ne_eq, n1, n2, not_false_eq_true, if_true, Sem.run_bind, e1, e2, o1, o2]
  rw [run_part1 (und_of_agg hi) (v := .int .i64 a.1) rfl, Result.andThen_ok, run_chk_leaf (.inl ⟨k, hi⟩)]
  simp only [Result.andThen_ok, Sem.run_pure, Sem.run_bind]
  rw [run_part1 (und_of_str hs) (v := .string (mkS a.2)) rfl, Result.andThen_ok, run_chk_leaf (.inr hs)]
  simp
theorem parV_inj (a b : Par) (h : parV a = parV b) : a = b := by
 unfold parV at h
 simp only [Value.agg.injEq, Array.mk.injEq, List.cons.injEq, Value.int.injEq, Value.string.injEq, true_and, and_true] at h
 exact Prod.ext h.1 (mkS_inj.1 h.2)
theorem prV_inj (a b : Par × Par) (h : prV a = prV b) : a = b := by
 unfold prV at h
 simp only [Value.agg.injEq, Array.mk.injEq, List.cons.injEq, Value.int.injEq, Value.string.injEq, true_and, and_true] at h
 exact Prod.ext (Prod.ext h.1 (mkS_inj.1 h.2.1)) (Prod.ext h.2.2.1 (mkS_inj.1 h.2.2.2))
theorem bits_int (d : Nat) (k : IntKind) (z : Int) : Instr.sameBits d (.int k z) (.int k z) = true := by unfold Instr.sameBits; simp
theorem bits_str (d : Nat) (z : ByteArray) : Instr.sameBits d (.string z) (.string z) = true := by
 obtain ⟨⟨l⟩⟩ := z
 have : ((⟨⟨l⟩⟩ : ByteArray) == ⟨⟨l⟩⟩) = true := by rw [beq_toListBytes]; simp
 unfold Instr.sameBits; exact this
theorem bits_par (a : Par) : Instr.sameBits 10000 (parV a) (parV a) = true := by
 show Instr.sameBits (9999 + 1) _ _ = true
 unfold parV Instr.sameBits
 simp [bits_int, bits_str]
theorem bits_pr (a : Par × Par) : Instr.sameBits 10000 (prV a) (prV a) = true := by
 show Instr.sameBits (9999 + 1) _ _ = true
 unfold prV Instr.sameBits
 simp [bits_int, bits_str]
end
theorem keyPar : KeyT Tryz.prog 55 parV :=
  ⟨fun a b w => run_eq_par (P := Tryz.prog) (t := 55) (ti := 3) (ts := 9) (k := .i64) (by kernel_rfl) (by kernel_rfl) (by kernel_rfl) (by kernel_rfl) (by kernel_rfl) 9998 a b w,
   ⟨_, (by kernel_rfl : Tryz.prog.underlying 55 = some (.struct (Tryz.prog.fieldsOf 55))), .inl fun _ _ => rfl⟩,
   fun e a w => run_chk_par (P := Tryz.prog) (t := 55) (ti := 3) (ts := 9) (k := .i64) (by kernel_rfl) (by kernel_rfl) (by kernel_rfl) (by kernel_rfl) e 9998 a w, bits_par, parV_inj⟩
end Go.Proofs.YtpdboaedoimahaaGreatDoor
end
section
set_option linter.unusedSectionVars false
set_option linter.unusedVariables false
set_option linter.unusedSimpArgs false
namespace Go.Proofs.YtpdboaedoimahaaGreatDoor
section
variable {P : Program}
theorem run_eq_arr {t e ti ts : TypeId} {k : IntKind} (ht : P.underlying t = some (.array 2 e)) (hi : (P.info? e).isSome = true) (hc : P.cellsOf e = 2) (hsz : szB P e = some 2)
  (hf' : (P.fieldsOf e).toList.map fldOf = [(true, ti, 0), (true, ts, 1)]) (ht' : P.underlying e = some (.struct (P.fieldsOf e))) (hp' : P.stoodInHeld e = false) (hti : P.underlying ti = some (.int k)) (hs : P.underlying ts = some .string) (d : Nat) (a b : Par × Par) (w : World) :
  (Op.equalIn (d + 3) t (prV a) (prV b)).run P w = .ok (decide (a = b)) w := by
 have hag : aggB P e = some true := by unfold aggB; rw [ht']
 obtain ⟨i, hi⟩ := Option.isSome_iff_exists.1 hi
 unfold prV
 rw [run_equalIn_array w (d + 2) _ _ ht hi, hc]
 obtain ⟨⟨a1, a2⟩, a3, a4⟩ := a
 obtain ⟨⟨b1, b2⟩, b3, b4⟩ := b
 rw [show List.range 2 = [0, 1] from rfl]
 simp only [Op.eqItems, Sem.run_bind, Nat.zero_mul, Nat.one_mul]
 rw [run_partN hag hsz, Result.andThen_ok, run_partN hag hsz, Result.andThen_ok]
 have q1 := run_eq_par hf' ht' hp' hti hs d (a1, a2) (b1, b2) w
 have q2 := run_eq_par hf' ht' hp' hti hs d (a3, a4) (b3, b4) w
 unfold parV at q1 q2
 have x1 : (#[Value.int .i64 a1, .string (mkS a2), .int .i64 a3, .string (mkS a4)].extract 0 (0 + 2)) = #[.int .i64 a1, .string (mkS a2)] := rfl
 have x2 : (#[Value.int .i64 b1, .string (mkS b2), .int .i64 b3, .string (mkS b4)].extract 0 (0 + 2)) = #[.int .i64 b1, .string (mkS b2)] := rfl
 have x3 : (#[Value.int .i64 a1, .string (mkS a2), .int .i64 a3, .string (mkS a4)].extract 2 (2 + 2)) = #[.int .i64 a3, .string (mkS a4)] := rfl
 have x4 : (#[Value.int .i64 b1, .string (mkS b2), .int .i64 b3, .string (mkS b4)].extract 2 (2 + 2)) = #[.int .i64 b3, .string (mkS b4)] := rfl
 simp only [x1, x2, q1, Result.andThen_ok]
 by_cases e : ((a1, a2) : Par) = (b1, b2)
 ·simp only [e, decide_true, Bool.not_true, Bool.false_eq_true, if_false, Sem.run_bind]
  rw [run_partN hag hsz, Result.andThen_ok, run_partN hag hsz, Result.andThen_ok]
  simp only [x3, x4, q2, Result.andThen_ok]
  by_cases e' : ((a3, a4) : Par) = (b3, b4)
  ·simp [e']
  ·simp [e']
 ·simp [e]
theorem run_chk_arr {t e ti ts : TypeId} {k : IntKind} (ht : P.underlying t = some (.array 2 e)) (hsz : szB P e = some 2)
  (hf' : (P.fieldsOf e).toList.map fldOf = [(true, ti, 0), (true, ts, 1)]) (ht' : P.underlying e = some (.struct (P.fieldsOf e))) (hti : P.underlying ti = some (.int k)) (hs : P.underlying ts = some .string) (emp : Bool) (d : Nat) (a : Par × Par) (w : World) :
  (Instr.checkKey emp (d + 3) t (prV a)).run P w = .ok () w := by
 have hag : aggB P e = some true := by unfold aggB; rw [ht']
 unfold prV
 rw [Instr.checkKey]
 simp only [Sem.run_bind, run_underlying ht, Result.andThen_ok]
 have q1 := run_chk_par hf' ht' hti hs emp d a.1 w
 have q2 := run_chk_par hf' ht' hti hs emp d a.2 w
 unfold parV at q1 q2
 have x1 : (#[Value.int .i64 a.1.1, .string (mkS a.1.2), .int .i64 a.2.1, .string (mkS a.2.2)].extract 0 (0 + 2)) = #[.int .i64 a.1.1, .string (mkS a.1.2)] := rfl
 have x2 : (#[Value.int .i64 a.1.1, .string (mkS a.1.2), .int .i64 a.2.1, .string (mkS a.2.2)].extract 2 (2 + 2)) = #[.int .i64 a.2.1, .string (mkS a.2.2)] := rfl
 simp only [Std.Legacy.Range.forIn_eq_forIn_range', Std.Legacy.Range.size, Nat.sub_zero, Nat.add_one_sub_one, Nat.div_one, show List.range' 0 2 1 = [0, 1] from rfl, List.forIn_cons, List.forIn_nil, Sem.run_bind, run_sizeOf' hsz, Result.andThen_ok, Nat.zero_mul, Nat.one_mul]
 rw [run_partN hag hsz, Result.andThen_ok, x1, q1]
 simp only [Result.andThen_ok, Sem.run_pure, Sem.run_bind, run_sizeOf' hsz, Nat.one_mul]
 rw [run_partN hag hsz, Result.andThen_ok, x2, q2]
 simp
end
theorem keyArr : KeyT Tryz.prog 182 prV :=
  ⟨fun a b w => run_eq_arr (P := Tryz.prog) (t := 182) (e := 55) (ti := 3) (ts := 9) (k := .i64) (by kernel_rfl) (by kernel_rfl) (by kernel_rfl) (by kernel_rfl) (by kernel_rfl) (by kernel_rfl) (by kernel_rfl) (by kernel_rfl) (by kernel_rfl) 9997 a b w,
   ⟨_, (by kernel_rfl : Tryz.prog.underlying 182 = some (.array 2 55)), .inl fun _ _ => rfl⟩,
   fun e a w => run_chk_arr (P := Tryz.prog) (t := 182) (e := 55) (ti := 3) (ts := 9) (k := .i64) (by kernel_rfl) (by kernel_rfl) (by kernel_rfl) (by kernel_rfl) (by kernel_rfl) (by kernel_rfl) e 9997 a w, bits_pr, prV_inj⟩
end Go.Proofs.YtpdboaedoimahaaGreatDoor
end
section
set_option linter.unusedSectionVars false
set_option linter.unusedVariables false
set_option linter.unusedSimpArgs false
namespace Go.Proofs.YtpdboaedoimahaaGreatDoor
variable [Flag]
open Go.MapKept
theorem eq_of_map {α β : Type} (f : α → β) : ∀ {l : List α} {x y : α}, (l.map f).Nodup → x ∈ l → y ∈ l → f x = f y → x = y
 | [], _, _, _, h, _, _ => by simp at h
 | a :: l, x, y, hn, hx, hy, e => by
  simp only [List.map_cons, List.nodup_cons] at hn
  rcases List.mem_cons.1 hx with e0 | hx
  ·subst e0
   rcases List.mem_cons.1 hy with e' | hy
   ·exact e'.symm
   ·exact absurd (List.mem_map.2 ⟨y, hy, e.symm⟩) hn.1
  ·rcases List.mem_cons.1 hy with e' | hy
   ·rw [e'] at e; exact absurd (List.mem_map.2 ⟨x, hx, e⟩) hn.1
   ·exact eq_of_map f hn.2 hx hy e
theorem len_of_sub {α β : Type} (f : α → β) : ∀ {L l : List α}, (L.map f).Nodup → (∀ p ∈ L, p ∈ l) → L.length ≤ l.length
 | [], _, _, _ => Nat.zero_le _
 | a :: L, l, hn, hs => by
  simp only [List.map_cons, List.nodup_cons] at hn
  obtain ⟨s, t, rfl⟩ := List.append_of_mem (hs a (by simp))
  have := len_of_sub f (L := L) (l := s ++ t) hn.2 (fun p hp => by
   have h1 := hs p (by simp [hp])
   have hne : p ≠ a := fun e => hn.1 (by rw [← e]; exact List.mem_map.2 ⟨p, hp, rfl⟩)
   simp only [List.mem_append, List.mem_cons] at h1 ⊢
   rcases h1 with h | h | h
   ·exact .inl h
   ·exact absurd h hne
   ·exact .inr h)
  simp only [List.length_append, List.length_cons] at this ⊢
  omega
section
variable {κ : Type} [DecidableEq κ] {enc : κ → Value}
structure Seen (enc : κ → Value) (es : Array MapEntry) (l : List (κ × Value)) (D : List MapEntry) (L : List (κ × Value)) : Prop where
 it : ItOK es D
 kv : D.map (fun e => (e.key, e.val)) = L.map (fun p => (enc p.1, p.2))
 sub : ∀ p ∈ L, p ∈ l
 nod : (L.map (·.1)).Nodup
theorem Seen.nil (es : Array MapEntry) (l : List (κ × Value)) : Seen enc es l [] [] := ⟨ItOK.nil es, rfl, by simp, by simp⟩
theorem Seen.snoc (hinj : ∀ a b, enc a = enc b → a = b) {es : Array MapEntry} {l : List (κ × Value)} {D : List MapEntry} {L : List (κ × Value)} (hl : es.toList.map (fun e => (e.key, e.val)) = l.map (fun p => (enc p.1, p.2))) (hn : (l.map (·.1)).Nodup)
  (h : Seen enc es l D L) {e : MapEntry} (he : e ∈ es.toList) (hi : ItOK es (D ++ [e])) : ∃ p, p ∈ l ∧ e.key = enc p.1 ∧ e.val = p.2 ∧ p.1 ∉ L.map (·.1) ∧ Seen enc es l (D ++ [e]) (L ++ [p]) := by
 have h1 : (e.key, e.val) ∈ l.map (fun p => (enc p.1, p.2)) := by rw [← hl]; exact List.mem_map.2 ⟨e, he, rfl⟩
 obtain ⟨p, hp, hpe⟩ := List.mem_map.1 h1
 simp only [Prod.mk.injEq] at hpe
 have hkn : (es.toList.map (·.key)).Nodup := by
  have e1 : es.toList.map (·.key) = (l.map (·.1)).map enc := by
   have := congrArg (List.map (·.1)) hl
   simpa [Function.comp_def] using this
  rw [e1]
  exact List.pairwise_map.2 (hn.imp fun hne e' => hne (hinj _ _ e'))
 have hnew : p.1 ∉ L.map (·.1) := by
  intro hm
  obtain ⟨q, hq, hqp⟩ := List.mem_map.1 hm
  have hqe : q = p := eq_of_map (·.1) hn (h.sub q hq) hp hqp
  subst hqe
  have h2 : (enc q.1, q.2) ∈ D.map (fun e => (e.key, e.val)) := by rw [h.kv]; exact List.mem_map.2 ⟨q, hq, rfl⟩
  obtain ⟨e', he', hee⟩ := List.mem_map.1 h2
  simp only [Prod.mk.injEq] at hee
  have : e' = e := eq_of_map (·.key) hkn (h.it.sub e' he') he (hee.1.trans hpe.1)
  subst this
  have := hi.nod
  rw [List.map_append, List.nodup_append] at this
  exact this.2.2 e'.born (List.mem_map.2 ⟨e', he', rfl⟩) e'.born (by simp) rfl
 refine ⟨p, hp, hpe.1.symm, hpe.2.symm, hnew, hi, ?_, fun q hq => ?_, ?_⟩
 ·rw [List.map_append, List.map_append, h.kv]; simp [hpe.1, hpe.2]
 ·rcases List.mem_append.1 hq with hq | hq
  ·exact h.sub q hq
  ·simp at hq; subst hq; exact hp
 ·rw [List.map_append, List.nodup_append]
  exact ⟨h.nod, by simp, fun a ha b hb e' => hnew (by simp at hb; rw [← hb, ← e']; exact ha)⟩
theorem Seen.all (hinj : ∀ a b, enc a = enc b → a = b) {es : Array MapEntry} {l : List (κ × Value)} {D : List MapEntry} {L : List (κ × Value)} (hl : es.toList.map (fun e => (e.key, e.val)) = l.map (fun p => (enc p.1, p.2)))
  (h : Seen enc es l D L) (hp : D.Perm es.toList) : ∀ p ∈ l, p ∈ L := by
 intro p hpl
 have h1 : (enc p.1, p.2) ∈ es.toList.map (fun e => (e.key, e.val)) := by rw [hl]; exact List.mem_map.2 ⟨p, hpl, rfl⟩
 obtain ⟨e, he, hee⟩ := List.mem_map.1 h1
 have h2 : (e.key, e.val) ∈ L.map (fun p => (enc p.1, p.2)) := by rw [← h.kv]; exact List.mem_map.2 ⟨e, hp.mem_iff.2 he, rfl⟩
 obtain ⟨q, hq, hqe⟩ := List.mem_map.1 h2
 simp only [Prod.mk.injEq] at hqe hee
 have : q = p := Prod.ext (hinj _ _ (hqe.1.trans hee.1)) (hqe.2.trans hee.2)
 subst this; exact hq
theorem Seen.len {es : Array MapEntry} {l : List (κ × Value)} {D : List MapEntry} {L : List (κ × Value)} (h : Seen enc es l D L) : L.length ≤ l.length := len_of_sub (·.1) h.nod h.sub
end
section rules
variable {P : Program} [Mixed P] {fn : Func} {Post : Spec} {st : List KI × S} {u m : PH}
variable {κ : Type} [DecidableEq κ] {enc : κ → Value}
theorem G.mapNextL (hinj : ∀ a b, enc a = enc b → a = b) (it g : Nat) (es : Array MapEntry) (clock : Nat) (l : List (κ × Value)) (D : List MapEntry) (L : List (κ × Value)) (h : mstop P (adv P st) = .next (.pointer (some ⟨it, 0, none⟩))) (hdr : noDr (adv P st) = true)
  (hi : m it = some (.mapIter (some g) clock (seenOf D) clock)) (hg : u g = some (.map es clock) ∨ m g = some (.map es clock)) (hs : Stamped es clock) (hl : es.toList.map (fun e => (e.key, e.val)) = l.map (fun p => (enc p.1, p.2))) (hn : (l.map (·.1)).Nodup) (hS : Seen enc es l D L)
  (k0 : (∀ p ∈ l, p ∈ L) → G P fn Post (nx (adv P st) (.tuple #[.bool false])) u m)
  (k1 : ∀ p e, p ∈ l → p.1 ∉ L.map (·.1) → e ∈ es.toList → e.key = enc p.1 → e.val = p.2 → Seen enc es l (D ++ [e]) (L ++ [p]) → G P fn Post (nx (adv P st) (.tuple #[.bool true, enc p.1, p.2])) u (m.upd it (.mapIter (some g) clock (seenOf (D ++ [e])) clock))) : G P fn Post st u m := by
 refine G.mapNext it g es clock D h hdr hi hg hs hS.it (fun hp => k0 (hS.all hinj hl hp)) (fun e he hi' => ?_)
 obtain ⟨p, h1, h2, h3, h4, h5⟩ := hS.snoc hinj hl hn he hi'
 rw [h2, h3]
 exact k1 p e h1 h4 he h2 h3 h5
end rules
end Go.Proofs.YtpdboaedoimahaaGreatDoor
end
section
set_option linter.unusedSectionVars false
set_option linter.unusedVariables false
namespace Go.Proofs.YtpdboaedoimahaaGreatDoor
open Go.RowKit
theorem mod0 {u : PH} {x : Int} {n : Nat} (h1 : -9223372036854775808 ≤ x) (h2 : x ≤ 9223372036854775807) (hn : 0 < n) (hn2 : n ≤ 1000000) :
  Fn0 Tryz.prog 51 [.int .i64 x, .int .i64 (n : Int)] u fun v _ => ∃ r : Nat, v = .int .i64 (r : Int) ∧ r < n := by
 refine Fn0.of Tryz.func51 (by kernel_rfl) (by kernel_rfl) ?_
 refine G.lssF (n : Int) 1 (by kernel_rfl) (by omega) ?_
 have a1 := Int.tmod_lt_of_pos x (show (0 : Int) < n by omega)
 have a2 := Int.lt_tmod_of_pos x (show (0 : Int) < n by omega)
 refine G.remZ x (n : Int) (x.tmod n) (by kernel_rfl) (by omega) (by omega) rfl ?_
 refine G.add (x.tmod n) (n : Int) (x.tmod n + n) (by kernel_rfl) rfl (by omega) (by omega) ?_
 obtain ⟨y, hy⟩ : ∃ y : Nat, x.tmod n + n = (y : Int) := ⟨(x.tmod n + n).toNat, by omega⟩
 refine G.remZ (x.tmod n + n) (n : Int) ((y % n : Nat) : Int) (by kernel_rfl) (by omega) (by omega) (by rw [hy, Int.tmod_eq_emod_of_nonneg (by omega)]; rfl) ?_
 exact G.ret _ (by kernel_rfl) ⟨rfl, y % n, rfl, Nat.mod_lt _ hn⟩
def Drawn (s : Src) (n : Nat) (v : Value) (m' : PH) : Prop := ∃ r k : Nat, v = .int .i64 (r : Int) ∧ r < n ∧ k ≤ s.n ∧ m' = s.M k
set_option maxHeartbeats 1000000 in
theorem srcN0 {u : PH} {s : Src} {ts : List Int} {k n : Nat} (h : SrcOK u s ts) (hk : k ≤ s.n) (hn : 0 < n) (hn2 : n ≤ 1000000) :
  Contract Tryz.prog 24 [s.ptr, .int .i64 (n : Int)] u (s.M k) fun v _ m' => Drawn s n v m' := by
 have hsn := h.n
 have hle := h.le
 refine Contract.of Tryz.func24 (by kernel_rfl) (by kernel_rfl) ?_
 refine G.fieldA 78 s.g 0 1 1 (by kernel_rfl) (by kernel_rfl) ?_
 refine G.loadM none s.g (0 + 1) (.int .i64 (k : Int)) (by kernel_rfl) (by kernel_rfl) (s.cell1 k) ?_
 refine G.fieldA 78 s.g 0 0 0 (by kernel_rfl) (by kernel_rfl) ?_
 refine G.loadM none s.g (0 + 0) (.slice s.a s.n s.c) (by kernel_rfl) (by kernel_rfl) (s.cell0 k) ?_
 by_cases hlt : k < s.n
 ·refine G.geqF (k : Int) (s.n : Int) (by kernel_rfl) (by omega) ?_
  refine G.fieldA 78 s.g 0 1 1 (by kernel_rfl) (by kernel_rfl) ?_
  refine G.loadM none s.g (0 + 1) (.int .i64 (k : Int)) (by kernel_rfl) (by kernel_rfl) (s.cell1 k) ?_
  refine G.add (k : Int) 1 ((k + 1 : Nat) : Int) (by kernel_rfl) (by omega) (by omega) (by omega) ?_
  refine G.fieldA 78 s.g 0 1 1 (by kernel_rfl) (by kernel_rfl) ?_
  refine G.storeM 1 s.g (0 + 1) 78 [.slice s.a s.n s.c, .int .i64 (k : Int)] (.int .i64 ((k + 1 : Nat) : Int)) (by kernel_rfl) (upd_same _ _ _) (fun x hx => by simp at hx; rcases hx with rfl | rfl <;> rfl) (by simp) rfl rfl ?_
  have e : (s.M k).upd s.g (.cells (([Value.slice s.a s.n s.c, .int .i64 (k : Int)].take (0 + 1)) ++ (Value.int .i64 ((k + 1 : Nat) : Int)).cells.toList ++ ([Value.slice s.a s.n s.c, .int .i64 (k : Int)].drop (0 + 1 + 1))).toArray 78 (0, 0)) = s.M (k + 1) := by
   unfold Src.M; rw [upd_upd]; rfl
  rw [e]
  refine G.fieldA 78 s.g 0 0 0 (by kernel_rfl) (by kernel_rfl) ?_
  refine G.loadM none s.g (0 + 0) (.slice s.a s.n s.c) (by kernel_rfl) (by kernel_rfl) (s.cell0 (k + 1)) ?_
  refine G.fieldA 78 s.g 0 1 1 (by kernel_rfl) (by kernel_rfl) ?_
  refine G.loadM none s.g (0 + 1) (.int .i64 ((k + 1 : Nat) : Int)) (by kernel_rfl) (by kernel_rfl) (s.cell1 (k + 1)) ?_
  refine G.sub ((k + 1 : Nat) : Int) 1 (k : Int) (by kernel_rfl) (by omega) (by omega) (by omega) ?_
  have hkt : k < ts.length := by omega
  obtain ⟨b, off, ea, eb⟩ := ListP.at' h.list (j := k) (e := .int .i64 ts[k]) (by simp [intsZ, List.getElem?_eq_getElem hkt])
  obtain ⟨g, a, n', c⟩ := s
  simp only at ea hlt hk hsn
  subst ea
  refine G.addr b off n' c k 1 (by kernel_rfl) hlt ?_
  refine G.loadU none b (off + k * 1) (.int .i64 ts[k]) (by kernel_rfl) (by kernel_rfl) eb ?_
  refine G.call0 _ _ (by kernel_rfl) Tryz.call51 (mod0 (h.lo _ (List.getElem_mem hkt)) (h.hi _ (List.getElem_mem hkt)) hn hn2) ?_
  rintro v1 u1 l1 ⟨r, rfl, hr⟩
  exact G.ret _ (by kernel_rfl) ⟨r, k + 1, rfl, hr, by dsimp only; omega, rfl⟩
 ·refine G.geqT (k : Int) (s.n : Int) (by kernel_rfl) (by omega) ?_
  exact G.ret (.int .i64 0) (by kernel_rfl) ⟨0, k, rfl, hn, hk, rfl⟩
theorem srcRange0 {u : PH} {s : Src} {ts : List Int} {k : Nat} {lo hi : Int} {n : Nat} (h : SrcOK u s ts) (hk : k ≤ s.n) (hlo : -1000000 ≤ lo) (hlo2 : lo ≤ 1000000) (hn : hi - lo + 1 = (n : Int)) (hn0 : 0 < n) (hn2 : n ≤ 1000000) :
  Contract Tryz.prog 23 [s.ptr, .int .i64 lo, .int .i64 hi] u (s.M k) fun v _ m' => ∃ (r : Nat) (k' : Nat), v = .int .i64 (lo + (r : Int)) ∧ r < n ∧ k' ≤ s.n ∧ m' = s.M k' := by
 refine Contract.of Tryz.func23 (by kernel_rfl) (by kernel_rfl) ?_
 refine G.sub hi lo (hi - lo) (by kernel_rfl) rfl (by omega) (by omega) ?_
 refine G.add (hi - lo) 1 (n : Int) (by kernel_rfl) hn (by omega) (by omega) ?_
 refine G.callA _ _ (by kernel_rfl) (by kernel_rfl) Tryz.call24 (mt_or _).symm (apart_mt _) (srcN0 h hk hn0 hn2) ?_
 rintro v1 u1 m1 l1 ⟨r, k', rfl, hr, hk', rfl⟩ _
 rw [mt_or]
 refine G.add lo (r : Int) (lo + (r : Int)) (by kernel_rfl) rfl (by omega) (by omega) ?_
 exact G.ret _ (by kernel_rfl) ⟨r, k', rfl, hr, hk', rfl⟩
theorem srcPick0 {u : PH} {s : Src} {ts : List Int} {k : Nat} {v : Value} {L : List Int} (h : SrcOK u s ts) (hk : k ≤ s.n) (hL : ListP u v 1 (intsZ L)) (hn0 : 0 < L.length) (hn2 : L.length ≤ 1000000) :
  Contract Tryz.prog 26 [s.ptr, v] u (s.M k) fun v _ m' => ∃ z ∈ L, ∃ k' : Nat, v = .int .i64 z ∧ k' ≤ s.n ∧ m' = s.M k' := by
 obtain ⟨a, c, rfl⟩ := hL.opn
 rw [intsZ_length] at hL ⊢
 refine Contract.of Tryz.func26 (by kernel_rfl) (by kernel_rfl) ?_
 refine G.callA _ _ (by kernel_rfl) (by kernel_rfl) Tryz.call24 (mt_or _).symm (apart_mt _) (srcN0 h hk hn0 hn2) ?_
 rintro v1 u1 m1 l1 ⟨r, k', rfl, hr, hk', rfl⟩ _
 rw [mt_or]
 obtain ⟨b, off, rfl, e⟩ := ListP.at' (hL.mono l1) (j := r) (e := .int .i64 L[r]) (by simp [intsZ, List.getElem?_eq_getElem hr])
 refine G.addr b off L.length c r 1 (by kernel_rfl) hr ?_
 refine G.loadU none b (off + r * 1) (.int .i64 L[r]) (by kernel_rfl) (by kernel_rfl) e ?_
 exact G.ret _ (by kernel_rfl) ⟨L[r], List.getElem_mem hr, k', rfl, hk', rfl⟩
structure SmR (q : Rat) : Prop where
 num : q.num.natAbs ≤ 9
 den : q.den ∣ 12
theorem SmR.le {q : Rat} (h : SmR q) : q.den ≤ 12 := Nat.le_of_dvd (by omega) h.den
end Go.Proofs.YtpdboaedoimahaaGreatDoor
end
section
set_option linter.unusedSectionVars false
set_option linter.unusedVariables false
namespace Go.Proofs.YtpdboaedoimahaaGreatDoor
open Go.RowKit
section rules
variable [Flag] {P : Program} [Mixed P] {fn : Func} {Post : Spec} {st : List KI × S} {u m : PH}
theorem G.appendM (e : TypeId) (sz bt : Nat) (z : Value) (m0 : PH) (es xs : List Value) (v : Value) (b off n c : Nat) (h : stopV P (adv P st) = .app (some (e, sz, bt, z)) true [v, .slice (some ⟨b, off, none⟩) n c]) (hz : z.cells.toList.all cellOK = true) (hzs : z.cells.size = sz) (hsz : 0 < sz)
  (ha : ArrAt m0 m v e sz es) (hx : ElsP m b off sz xs) (ho : ElsOK sz xs) (hn : xs.length = n) (hn0 : 0 < n) (hb : (es.length + n) * bt ≤ 140737488355328) (hb2 : es.length + n ≤ 9223372036854775807)
  (k : ∀ v' m', ArrAt m0 m' v' e sz (es ++ xs) → G P fn Post (nx (adv P st) v') u m') : G P fn Post st u m := by
 refine G.big (K := fun v' u' m' => u' = u ∧ ArrAt m0 m' v' e sz (es ++ xs)) h (by simp) (fun env op hv => (view_app (P := P) (o := ⟨none, op, 0, "", #[], none⟩) hv).2.1) (.inr fun env op hv => (view_app (P := P) (o := ⟨none, op, 0, "", #[], none⟩) hv).1) (fun env o hview w hgd => ?_) (fun v' u' m' _ hk => ?_)
 ·obtain ⟨_, _, t, hi, hex⟩ := view_app (P := P) hview
  obtain ⟨v', w', m', h1, h2, h3, h4⟩ := append_world (P := P) m0 es xs v b off n c o.type hi hz hzs hsz ha ho hn hn0 hb hb2 hgd (hx.cells hsz ho hgd.pm)
  refine does_value (w' := w') (v := v') ?_ ⟨u, m', h2, h3, rfl, h4⟩
  rw [hex w, h1]; rfl
 ·obtain ⟨rfl, hk⟩ := hk
  exact k v' m' hk
end rules
theorem Src.h0 (s : Src) (k k' : Nat) (g : Nat) : s.M k g = none ∨ s.M k' g ≠ none := by
 by_cases e : g = s.g
 ·subst e; right; unfold Src.M; rw [upd_same]; simp
 ·left; unfold Src.M; rw [upd_ne _ _ e]; rfl
theorem srcNew0 {u : PH} {v : Value} {ts : List Int} (h : ListP u v 1 (intsZ ts)) (hl : ts.length ≤ 600) (h1 : ∀ t ∈ ts, -9223372036854775808 ≤ t) (h2 : ∀ t ∈ ts, t ≤ 9223372036854775807) :
  Contract Tryz.prog 7 [v] u PH.mt fun v' u' m' => ∃ s : Src, v' = s.ptr ∧ m' = s.M 0 ∧ SrcOK u' s ts := by
 have hcap : ∃ a c, v = .slice a ts.length c ∧ ts.length ≤ c := by
  obtain ⟨a, c, e1, e2, _⟩ := h
  rw [intsZ_length] at e1 e2
  exact ⟨a, c, e1, e2⟩
 obtain ⟨a, c, rfl, hcap⟩ := hcap
 refine Contract.of Tryz.func7 (by kernel_rfl) (by kernel_rfl) ?_
 refine G.minI [3, 3] (ts.length : Int) 600 (ts.length : Int) (by kernel_rfl) (by omega) ?_
 refine G.sliceTo 1 a ts.length c ts.length (by kernel_rfl) hcap ?_
 refine G.pub 1006 78 [.slice a ts.length c, .int .i64 0] (by kernel_rfl) (by kernel_rfl) ?_
 intro g hu hm
 exact G.ret (.pointer (some ⟨g, 0, none⟩)) (by kernel_rfl) ⟨⟨g, a, ts.length, c⟩, rfl, rfl, h, rfl, hl, h1, h2⟩
theorem Src.bag0 (s : Src) (k : Nat) {l : List Arr} (h : Bag PH.mt l) : Bag (s.M k) (s.arr k :: l) := by
 have := Src.at (s := s) (k := k) (m0 := PH.mt) rfl
 rw [mt_or] at this
 exact ⟨PH.mt, this, h⟩
end Go.Proofs.YtpdboaedoimahaaGreatDoor
end
section
set_option linter.unusedSectionVars false
set_option linter.unusedVariables false
namespace Go.Proofs.YtpdboaedoimahaaGreatDoor
open Go.RowKit
end Go.Proofs.YtpdboaedoimahaaGreatDoor
end
section
set_option linter.unusedSectionVars false
set_option linter.unusedVariables false
namespace Go.Proofs.YtpdboaedoimahaaGreatDoor
open Go.RowKit
end Go.Proofs.YtpdboaedoimahaaGreatDoor
end
section
set_option linter.unusedSectionVars false
set_option linter.unusedVariables false
namespace Go.Proofs.YtpdboaedoimahaaGreatDoor
open Go.RowKit
def T12 (q : Rat) (N : Nat) : Prop := ∃ k : Int, q = Rat.divInt k 12 ∧ k.natAbs ≤ N
theorem SmR.t12 {q : Rat} (h : SmR q) : T12 q 108 := by
 obtain ⟨c, hc⟩ := h.den
 refine ⟨q.num * (c : Int), ?_, ?_⟩
 ·have hd := q.den_pos
  have hc0 : c ≠ 0 := fun e => by rw [e] at hc; simp at hc
  have h1 : (12 : Int) = (q.den : Int) * (c : Int) := by rw [← Int.natCast_mul, ← hc]; rfl
  rw [h1, Rat.divInt_mul_right (by omega), Rat.num_divInt_den]
 ·have h1 := h.num
  have h2 : c ≤ 12 := by
   have hd := q.den_pos
   have : 1 * c ≤ q.den * c := Nat.mul_le_mul_right _ hd
   omega
  rw [Int.natAbs_mul, Int.natAbs_natCast]
  have : q.num.natAbs * c ≤ 9 * 12 := Nat.mul_le_mul h1 h2
  omega
end Go.Proofs.YtpdboaedoimahaaGreatDoor
end
