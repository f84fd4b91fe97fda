/- Joined out of parts of one proof by a program: contracts of the functions that the statement reaches, and the plain facts behind them. -/
import Derived.Test.YtpdboaedoimahaaGreatDoorKD08
set_option linter.unusedVariables false
set_option linter.unusedSimpArgs false
set_option linter.unusedSectionVars false
section
set_option linter.unusedSectionVars false
set_option linter.unusedVariables false
namespace Go.Proofs.YtpdboaedoimahaaGreatDoor
open Go.RowKit Go.MapKept
def findRF : Code → Option (Operand × Array Tmp × Code × Code)
 | .seq a b => match findRF a with | some x => some x | none => findRF b
 | .block _ a => findRF a
 | .loop a => findRF a
 | .cond _ a b => match findRF a with | some x => some x | none => findRF b
 | .rangeFunc g ps x y => some (g, ps, x, y)
 | _ => none
def rfG (fn : Func) : Operand := match findRF (bodyOf fn) with | some x => x.1 | none => .tmp 0
def rfPs (fn : Func) : Array Tmp := match findRF (bodyOf fn) with | some x => x.2.1 | none => #[]
def rfX (fn : Func) : Code := match findRF (bodyOf fn) with | some x => x.2.2.1 | none => .skip
def rfY (fn : Func) : Code := match findRF (bodyOf fn) with | some x => x.2.2.2 | none => .skip
def seqB : Code → Bool
 | .seq _ _ => true
 | _ => false
def seqL : Code → Code
 | .seq a _ => a
 | _ => .skip
def seqR : Code → Code
 | .seq _ b => b
 | _ => .skip
def blkB : Code → Bool
 | .block _ _ => true
 | _ => false
def blkC : Code → Code
 | .block _ a => a
 | _ => .skip
def rgB : Code → Bool
 | .region _ ops false => noDefer ops
 | _ => false
def rgI : Code → Nat
 | .region id _ _ => id
 | _ => 0
def rgO : Code → Array Oper
 | .region _ ops _ => ops
 | _ => #[]
def cnB : Code → Bool
 | .cond _ _ _ => true
 | _ => false
def cnX : Code → Operand
 | .cond x _ _ => x
 | _ => .tmp 0
def cnZ : Code → Code
 | .cond _ _ z => z
 | _ => .skip
def skB : Code → Bool
 | .skip => true
 | _ => false
def RW (P : Program) (l : Nat) (c : Code) (J : S → PH → PH → Prop) (s : S) (u m : PH) : Prop :=
 ∀ (cx : Cx) (ρ : Nat → Nat) (a : Act) (w : World), Rel cx s u m ρ a w → c.wpIn (Fence.wide.inRound l) 0 P (Exit.then (fun a w => ∃ s u m ρ, Rel cx s u m ρ a w ∧ J s u m) (fun _ _ _ => False)) a w
section
variable {P : Program} {l : Nat} {J J' : S → PH → PH → Prop} {s : S} {u m : PH}
theorem RW.skip (h : J s u m) : RW P l .skip J s u m := fun cx ρ a w hr => wpIn_skip ⟨s, u, m, ρ, hr, h⟩
theorem RW.seq {x y : Code} (h : RW P l x (fun s u m => RW P l y J s u m) s u m) : RW P l (.seq x y) J s u m := fun cx ρ a w hr => wpIn_seq (wpIn_mono (h cx ρ a w hr) fun e a w hq => by
 cases e with
 | normal => obtain ⟨s, u, m, ρ, h1, h2⟩ := hq; exact h2 cx ρ a w h1
 | _ => exact hq)
theorem RW.block {id : Nat} {x : Code} (h : RW P l x J s u m) : RW P l (.block id x) J s u m := fun cx ρ a w hr => wpIn_block (wpIn_mono (h cx ρ a w hr) fun e a w hq => by
 cases e with
 | normal => exact hq
 | _ => exact hq.elim)
theorem RW.condF {x : Operand} {y z : Code} (hx : s.ev x = .v (.bool false)) (h : RW P l z J s u m) : RW P l (.cond x y z) J s u m := fun cx ρ a w hr =>
 wpIn_cond_false (by rw [hr.eval x (by rw [hx]; simp), hx]; rfl) (h cx ρ a w hr)
theorem RW.reg [Mixed P] {id : Nat} {ops : Array Oper} (fn : Func) (hnd : noDefer ops = true) (h : ∀ (Post : Spec) (J' : S → PH → PH → Prop), (∀ s u m, J s u m → J' s u m) → G P fn Post ([.reg id ops false (List.range ops.size), .lp J'], s) u m) : RW P l (.region id ops false) J s u m := fun cx ρ a w hr =>
 regIn (allF_round l) hnd (h ⟨fun _ _ _ => False, cx.m0⟩ J fun _ _ _ h => h) hr rfl fun s u m ρ a w h1 h2 => ⟨s, u, m, ρ, h1, h2⟩
end
theorem Contract.weak {P : Program} {f : FuncId} {args : List Value} {u m : PH} {R R' : Value → PH → PH → Prop} (h : Contract P f args u m R) (hr : ∀ v u' m', R v u' m' → R' v u' m') : Contract P f args u m R' := fun w hg => Calls.mono (h w hg) fun e w' ⟨v, u', m', e1, e2, e3, e4⟩ => ⟨v, u', m', e1, e2, e3, hr _ _ _ e4⟩
theorem RW.seq' {P : Program} {l : Nat} {J : S → PH → PH → Prop} {s : S} {u m : PH} {c : Code} (hc : seqB c = true) (h : RW P l (seqL c) (fun s u m => RW P l (seqR c) J s u m) s u m) : RW P l c J s u m := by
 cases c <;> first | exact RW.seq h | cases hc
theorem RW.block' {P : Program} {l : Nat} {J : S → PH → PH → Prop} {s : S} {u m : PH} {c : Code} (hc : blkB c = true) (h : RW P l (blkC c) J s u m) : RW P l c J s u m := by
 cases c <;> first | exact RW.block h | cases hc
theorem RW.skip' {P : Program} {l : Nat} {J : S → PH → PH → Prop} {s : S} {u m : PH} {c : Code} (hc : skB c = true) (h : J s u m) : RW P l c J s u m := by
 cases c <;> first | exact RW.skip h | cases hc
theorem RW.condF' {P : Program} {l : Nat} {J : S → PH → PH → Prop} {s : S} {u m : PH} {c : Code} (hc : cnB c = true) (hx : s.ev (cnX c) = .v (.bool false)) (h : RW P l (cnZ c) J s u m) : RW P l c J s u m := by
 cases c <;> first | exact RW.condF hx h | cases hc
theorem RW.reg' {P : Program} [Mixed P] {l : Nat} {J : S → PH → PH → Prop} {s : S} {u m : PH} {c : Code} (fn : Func) (hc : rgB c = true) (h : ∀ (Post : Spec) (J' : S → PH → PH → Prop), (∀ s u m, J s u m → J' s u m) → G P fn Post ([.reg (rgI c) (rgO c) false (List.range (rgO c).size), .lp J'], s) u m) : RW P l c J s u m := by
 cases c with
 | region id ops dr =>
  cases dr with
  | false => exact RW.reg fn hc h
  | true => cases hc
 | _ => cases hc
def busy (r : Loop) : Loop := { r with state := .busy }
theorem two_params (p q : Nat) (a b : Value) (t : Array Value) : ((#[p, q].zip [a, b].toArray).foldl (fun tmps (t, a) => tmps.setIfInBounds t a) t) = (t.setIfInBounds p a).setIfInBounds q b := by
 rw [← Array.foldl_toList]; simp
theorem yieldC_of {P : Program} {l n : Nat} {r : Loop} {args : List Value} {T : List (Nat × Value)} {u m : PH} {K : PH → PH → Prop} (hm : m l = some (.loop r)) (hr : r.state = .ready) (hp : r.pending = none) (hs : args.length = r.params.size)
  (hn : r.tmps.size = n) (hT : ∀ x ∈ T, ((r.params.zip args.toArray).foldl (fun tmps (t, a) => tmps.setIfInBounds t a) r.tmps)[x.1]? = some x.2)
  (h : RW P l r.assign (fun s u1 m1 => m1 l = some (.loop r) ∧ RW P l r.body (fun _ u2 m2 => m2 l = some (.loop (busy r)) ∧ K u2 (m2.upd l (.loop r))) s u1 (m1.upd l (.loop (busy r)))) (S.ofT n T) u m) :
  YieldC P l args u m fun v u' m' => v = .bool true ∧ K u' m' := by
 intro w hgd
 have hl := hgd.pm l _ hm
 have hsz : ((r.params.zip args.toArray).foldl (fun tmps (t, a) => tmps.setIfInBounds t a) r.tmps).size = n := by
  rw [← hn, ← Array.foldl_toList]
  generalize (r.params.zip args.toArray).toList = L
  generalize r.tmps = t0
  induction L generalizing t0 with
  | nil => rfl
  | cons x L ih => rw [List.foldl_cons, ih]; simp
 refine ⟨r.fn, _, r.assign, r.body, run_yield hl (by simpa using hs), roundIn_of_wpIn trivial ?_⟩
 have hrel := Rel.start (T := T) hgd (tmps := (r.params.zip args.toArray).foldl (fun tmps (t, a) => tmps.setIfInBounds t a) r.tmps) hT
 rw [hsz] at hrel
 refine wpIn_mono (h _ _ _ _ hrel) fun e a1 w1 hq => ?_
 cases e with
 | normal =>
  obtain ⟨s1, u1, m1, ρ1, r1, h1, h2⟩ := hq
  have hl1 := r1.gd.pm l _ h1
  have hne : ∀ k b, s1.hp k = some b → ρ1 k ≠ l := fun k b hb e => by
   obtain ⟨_, _, _, e4⟩ := r1.box k b hb
   rw [e, h1] at e4; cases e4
  obtain ⟨g1, g2⟩ := r1.gd.putO (o' := .loop (busy r)) h1 rfl
  have r2 : Rel ⟨w, u, m⟩ s1 u1 (m1.upd l (.loop (busy r))) ρ1 a1 (w1.putObj l (.loop (busy r))) := by
   refine ⟨r1.sz, r1.tm, r1.df.of fun q e _ hu hm' => ?_, fun k b hb => ?_, r1.inj, r1.lv, g1, r1.gr.trans g2⟩
   ·have hql : q ≠ l := fun e' => by rw [e', h1] at hm'; cases hm'
    exact ⟨by rw [World.putObj_heap_other hql]; exact e, hu, by rw [upd_ne _ _ hql]; exact hm'⟩
   ·obtain ⟨e1, e2, e3, e4⟩ := r1.box k b hb
    exact ⟨by rw [World.putObj_heap_other (hne k b hb)]; exact e1, e2, e3, by rw [upd_ne _ _ (hne k b hb)]; exact e4⟩
  refine ⟨_, run_beginRound hl1 hr, wpIn_mono (h2 _ _ _ _ r2) fun e2 a2 w2 hq2 => ?_⟩
  cases e2 with
  | normal =>
   obtain ⟨s2, u2, m2, ρ2, r3, h3, h4⟩ := hq2
   have hl2 := r3.gd.pm l _ h3
   refine ⟨_, _, run_endRound none hl2, ?_⟩
   have e5 : ({ busy r with state := if (none : Option Code).isNone then .ready else .done, pending := none } : Loop) = r := by
    unfold busy
    cases r
    simp only at hr hp
    subst hr; subst hp; rfl
   rw [e5]
   obtain ⟨g3, g4⟩ := r3.gd.putO (o' := .loop r) h3 rfl
   exact ⟨_, _, _, rfl, g3, r3.gr.trans g4, rfl, h4⟩
  | _ => exact hq2.elim
 | _ => exact hq.elim
section
variable {P : Program} [Mixed P] {fn : Func} {Post : Spec} {st : List KI × S} {u m : PH}
def rfAt (st : List KI × S) : Option (Operand × Array Tmp × Code × Code) := match st.1 with
 | .code (.rangeFunc g ps x y) :: _ => some (g, ps, x, y)
 | _ => none
def rfNext (st : List KI × S) : List KI × S := match st.1 with
 | .code (.rangeFunc _ _ _ _) :: k => (k, st.2)
 | _ => st
theorem G.rangeF (g : Operand) (ps : Array Tmp) (x y : Code) (gid : Nat) (cap : List Value) (Inv : PH → PH → Prop) (h : rfAt (adv P st) = some (g, ps, x, y)) (hg : (adv P st).2.ev g = .v (.func (.func gid) #[] cap.toArray)) (hn : noReg (rfNext (adv P st)).1 = true)
  (hc : ∀ args w, (callFunc gid args).run P w = .ok (.enter gid args) w)
  (hcall : ∀ (l : Nat) (r : Loop), r.state = .ready → r.pending = none → r.params = ps → r.assign = x → r.body = y → r.tmps.size = (adv P st).2.n → (∀ d v, (adv P st).2.tm d = .v v → r.tmps[d]? = some v) → m l = none → u l = none →
   Contract P gid (.func (.yield l) #[] #[] :: cap) u (m.upd l (.loop r)) fun _ u' m' => ∃ r' : Loop, r'.state ≠ .busy ∧ r'.pending = none ∧ m' l = some (.loop r') ∧ ∃ m'', PH.le m'' m' ∧ m'' l = none ∧ Inv u' m'')
  (k : ∀ u' m', PH.le u u' → Inv u' m' → G P fn Post (rfNext (adv P st)) u' m') : G P fn Post st u m := by
 refine G.stp ?_
 generalize adv P st = st' at h hg hn hcall k
 obtain ⟨ks, s⟩ := st'
 match ks, h with
 | .code (.rangeFunc g' ps' x' y') :: kk, h =>
  simp only [rfAt, Option.some.injEq, Prod.mk.injEq] at h
  obtain ⟨rfl, rfl, rfl, rfl⟩ := h
  simp only [rfNext] at hn hcall k
  refine ⟨?_⟩
  intro c ρ a w hm0 hr
  show (Code.rangeFunc g' ps' x' y').wp P (cont P fn Post c kk) a w
  refine (wpIn_wide (n := 0)).1 (wpIn_rangeFunc fun fid _ => ?_)
  obtain ⟨rec, hrec⟩ : ∃ rec : Loop, rec = { state := .ready, pending := none, fn := fid, tmps := a.tmps, params := ps', assign := x', body := y', defers := w.heap.size } := ⟨_, rfl⟩
  have hen := run_enterLoop_outer (P := P) (w := w) fid a.tmps ps' x' y'
  rw [← hrec] at hen
  obtain ⟨w1, hw1⟩ : ∃ w1, w1 = w.alloc (.deferred (some [])) := ⟨_, rfl⟩
  rw [← hw1] at hen
  have hs1 : w1.heap.size = w.heap.size + 1 := by rw [hw1, size_alloc']
  rw [← hs1] at hen
  have hd1 : w1.heap[w.heap.size]? = some (.deferred (some [])) := by rw [hw1]; exact heap_alloc_eq _ _
  have hum : u w.heap.size = none := hr.gd.pu.none (Nat.le_refl _)
  have hmm : m w.heap.size = none := hr.gd.pm.none (Nat.le_refl _)
  have hgd1 : Good u m w1 := by
   refine ⟨fun g o hg => ?_, fun g o hg => ?_, hr.gd.ap, fun g cs t fr j z hg hj => ?_⟩
   ·rw [hw1, heap_alloc_lt _ _ (hr.gd.pu.lt hg)]; exact hr.gd.pu g o hg
   ·rw [hw1, heap_alloc_lt _ _ (hr.gd.pm.lt hg)]; exact hr.gd.pm g o hg
   ·by_cases e : g = w.heap.size
    ·subst e; rw [hd1] at hg; simp at hg
    ·have hlt := lt_of_at hg
     rw [hs1] at hlt
     rw [hw1, heap_alloc_lt _ _ (by omega)] at hg
     exact hr.gd.cl g cs t fr j z hg hj
  have hgr1 : Grown c.u0 c.m0 c.w0 u m w1 := hr.gr.trans ⟨by omega, fun g hg _ => by rw [hw1]; exact heap_alloc_lt _ _ hg, fun _ _ => rfl, fun _ _ h => h, by rw [hw1]; exact ⟨rfl, rfl⟩, fun _ => by rw [hw1]; exact ⟨rfl, Nat.le_refl _⟩⟩
  have hr1 : Rel c s u m ρ { a with defers := markOf w.heap.size :: a.defers } w1 := by
   refine ⟨hr.sz, hr.tm, ?_, fun k b hb => ?_, hr.inj, hr.lv, hgd1, hgr1⟩
   ·obtain ⟨ds, d1, d2, d3⟩ := hr.df
    refine ⟨w.heap.size :: ds, List.nodup_cons.2 ⟨fun hmem => ?_, d1⟩, by rw [List.map_cons, d2], fun q hq => ?_⟩
    ·obtain ⟨e, _⟩ := d3 _ hmem
     exact absurd (lt_of_at e) (by omega)
    ·rcases List.mem_cons.1 hq with rfl | hq
     ·exact ⟨hd1, hr.gr.sz, hum, hmm⟩
     ·obtain ⟨e1, e2, e3, e4⟩ := d3 q hq
      exact ⟨by rw [hw1, heap_alloc_lt _ _ (lt_of_at e1)]; exact e1, e2, e3, e4⟩
   ·obtain ⟨⟨cs, f1, f2, f3⟩, f4⟩ := hr.box k b hb
    exact ⟨⟨cs, by rw [hw1, heap_alloc_lt _ _ (lt_of_at f1)]; exact f1, f2, f3⟩, f4⟩
  obtain ⟨g1, g2, g3, g4⟩ := hgd1.newO (o := .loop rec) rfl
  have hr2 : Rel c s u (m.upd w1.heap.size (.loop rec)) ρ { a with defers := markOf w.heap.size :: a.defers } (w1.alloc (.loop rec)) := by
   refine ⟨hr1.sz, hr1.tm, hr1.df.of fun q e _ hu hm' => ?_, fun k b hb => ?_, hr1.inj, hr1.lv, g1, hr1.gr.trans g2⟩
   ·have hlt := lt_of_at e
    exact ⟨by rw [heap_alloc_lt _ _ hlt]; exact e, hu, by rw [upd_ne _ _ (by omega)]; exact hm'⟩
   ·obtain ⟨⟨cs, f1, f2, f3⟩, f4, f5, f6⟩ := hr1.box k b hb
    have hlt := lt_of_at f1
    exact ⟨⟨cs, by rw [heap_alloc_lt _ _ hlt]; exact f1, f2, f3⟩, f4, f5, by rw [upd_ne _ _ (by omega)]; exact f6⟩
  have hev : a.eval g' = .func (.func gid) #[] cap.toArray := by rw [hr.eval g' (by rw [hg]; simp), hg]; rfl
  have hcc := hcall w1.heap.size rec (by rw [hrec]) (by rw [hrec]) (by rw [hrec]) (by rw [hrec]) (by rw [hrec]) (by rw [hrec]; exact hr.sz) (fun d v hd => by
   have := hr.tm d (by rw [hd]; simp)
   rw [hd] at this
   rw [hrec]; exact this) g3 g4
  obtain ⟨dd, hdd⟩ : ∃ dd : Deferred, dd = { target := .fn (.func gid) cap.toArray, args := #[.func (.yield w1.heap.size) #[] #[]] } := ⟨_, rfl⟩
  have hres : (resolve a.eval (rangeCall g' w1.heap.size) 0).run P (w1.alloc (.loop rec)) = .ok dd (w1.alloc (.loop rec)) := by
   rw [hdd]; simp only [resolve, rangeCall, hev, Deferred.ofValue]; simp [Act.eval]
  have hinv : (invoke dd.target dd.args).run P (w1.alloc (.loop rec)) = .ok (.enter gid (.func (.yield w1.heap.size) #[] #[] :: cap).toArray) (w1.alloc (.loop rec)) := by
   rw [hdd]; simp [invoke, hc]
  refine ⟨w1.heap.size, [markOf w.heap.size], w1.alloc (.loop rec), dd, w1.alloc (.loop rec), gid, (.func (.yield w1.heap.size) #[] #[] :: cap).toArray, w1.alloc (.loop rec), hen, hres, fun _ _ => trivial, hinv, (fun h => by cases h), ?_⟩
  ·refine callsIn_wide.2 (Calls.mono (hcc _ g1) fun e w3 he => ?_)
   obtain ⟨v, u', m', rfl, k1, k2, r', q1, q2, q3, m'', q4, q5, q6⟩ := he
   have hl3 := k1.pm _ _ q3
   refine ⟨none, _, by rw [← q2]; exact run_endLoop hl3 q1, ?_⟩
   obtain ⟨p1, p2⟩ := k1.putO (o' := .loop { r' with state := .exhausted }) q3 rfl
   have hle4 : PH.le m'' (m'.upd w1.heap.size (.loop { r' with state := .exhausted })) := fun g o hg => by
    by_cases e : g = w1.heap.size
    ·subst e; rw [q5] at hg; cases hg
    ·rw [upd_ne _ _ e]; exact q4 g o hg
   have hr3 : Rel c s u' (m'.upd w1.heap.size (.loop { r' with state := .exhausted })) ρ { a with defers := markOf w.heap.size :: a.defers } (w3.putObj w1.heap.size (.loop { r' with state := .exhausted })) := by
    have g5 := k2.trans p2
    refine ⟨hr2.sz, hr2.tm, hr2.df.of fun q e _ hu hm' => ⟨by rw [g5.old _ (lt_of_at e) hm']; exact e, by rw [g5.us _ (lt_of_at e)]; exact hu, g5.ms _ (lt_of_at e) hm'⟩, fun k b hb => ?_, hr2.inj, hr2.lv, p1, hr2.gr.trans g5⟩
    obtain ⟨e1, e2, e3, e4⟩ := hr2.box k b hb
    have hlt : ρ k < (w1.alloc (.loop rec)).heap.size := by obtain ⟨cs, e, _⟩ := e1; exact lt_of_at e
    refine ⟨?_, e2, ?_, ?_⟩
    ·rw [g5.old _ hlt e4]; exact e1
    ·rw [g5.us _ hlt]; exact e3
    ·exact g5.ms _ hlt e4
   have hk := (k u' m'' (k2.le g1.pu) q6).out
   rw [Sym.ofNo hn] at hk
   exact hk c ρ _ _ hm0 (hr3.less hle4)
end
end Go.Proofs.YtpdboaedoimahaaGreatDoor
end
section
set_option linter.unusedSectionVars false
set_option linter.unusedVariables false
namespace Go.Proofs.YtpdboaedoimahaaGreatDoor
open Go.RowKit Go.MapKept
theorem ArrAt.base {m0 m : PH} {v : Value} {t : TypeId} {sz : Nat} {es : List Value} {b : Nat} {o : Obj} (h : ArrAt m0 m v t sz es) (hb : m0 b ≠ none) : ArrAt (m0.upd b o) (m.upd b o) v t sz es := by
 obtain ⟨ho, h⟩ := h
 rcases h with ⟨h1, h2, rfl⟩ | ⟨g, cap, rest, h1, rfl, h2, h3, h4, h5⟩
 ·exact ⟨ho, .inl ⟨h1, h2, rfl⟩⟩
 ·have hne : g ≠ b := fun e => by subst e; exact hb h1
  exact ⟨ho, .inr ⟨g, cap, rest, by rw [upd_ne _ _ hne]; exact h1, upd_comm _ _ _ hne, h2, h3, h4, h5⟩⟩
theorem ArrAt.see {m0 m : PH} {v : Value} {t : TypeId} {sz : Nat} {es : List Value} {b : Nat} {o : Obj} (h : ArrAt m0 m v t sz es) (hb : m0 b = some o) : m b = some o := h.le b o hb
end Go.Proofs.YtpdboaedoimahaaGreatDoor
end
section
set_option linter.unusedSectionVars false
set_option linter.unusedVariables false
namespace Go.Proofs.YtpdboaedoimahaaGreatDoor
open Go.RowKit Go.MapKept
theorem del_upd {m : PH} {l b : Nat} {o : Obj} (h : b ≠ l) : (m.upd b o).del l = (m.del l).upd b o := by
 funext k
 by_cases e : k = l
 ·subst e
  rw [upd_ne _ _ (fun e' => h e'.symm)]
  simp [PH.del]
 ·by_cases e' : k = b
  ·subst e'; rw [upd_same]; simp [PH.del, e, upd_same]
  ·rw [upd_ne _ _ e']; simp [PH.del, e, upd_ne _ _ e']
theorem del_upd_same {m : PH} {l : Nat} {o : Obj} (h : m l = none) : (m.upd l o).del l = m := by
 funext k
 by_cases e : k = l
 ·subst e; simp [PH.del, h]
 ·simp [PH.del, e, upd_ne _ _ e]
theorem del_le (m : PH) (l : Nat) : PH.le (m.del l) m := fun g o h => by
 unfold PH.del at h
 split at h
 ·cases h
 ·exact h
theorem del_at (m : PH) (l : Nat) : m.del l l = none := by unfold PH.del; simp
theorem ArrAt.del {m0 m : PH} {v : Value} {t : TypeId} {sz : Nat} {es : List Value} {l : Nat} (h : ArrAt m0 m v t sz es) (hl : m0 l ≠ none) : ArrAt (m0.del l) (m.del l) v t sz es := by
 obtain ⟨ho, h⟩ := h
 rcases h with ⟨h1, h2, rfl⟩ | ⟨g, cap, rest, h1, rfl, h2, h3, h4, h5⟩
 ·exact ⟨ho, .inl ⟨h1, h2, rfl⟩⟩
 ·have hne : g ≠ l := fun e => by subst e; exact hl h1
  exact ⟨ho, .inr ⟨g, cap, rest, by unfold PH.del; rw [if_neg hne]; exact h1, del_upd hne, h2, h3, h4, h5⟩⟩
def BoxL (t et : TypeId) (sz b : Nat) (mr : PH) (es : List Value) (m : PH) : Prop := ∃ a c, ArrAt (mr.upd b (.cells #[.slice a es.length c] t (0, 0))) m (.slice a es.length c) et sz es
theorem BoxL.see {t et : TypeId} {sz b l : Nat} {mr m : PH} {es : List Value} {o : Obj} (h : BoxL t et sz b mr es m) (hb : b ≠ l) (hl : mr l = some o) : m l = some o := by
 obtain ⟨a, c, h⟩ := h
 exact h.see (by rw [upd_ne _ _ (fun e => hb e.symm)]; exact hl)
theorem BoxL.base {t et : TypeId} {sz b l : Nat} {mr m : PH} {es : List Value} {o : Obj} (h : BoxL t et sz b mr es m) (hb : b ≠ l) (hl : mr l ≠ none) : BoxL t et sz b (mr.upd l o) es (m.upd l o) := by
 obtain ⟨a, c, h⟩ := h
 refine ⟨a, c, ?_⟩
 rw [upd_comm _ _ _ (fun e => hb e.symm)]
 exact h.base (by rw [upd_ne _ _ (fun e => hb e.symm)]; exact hl)
set_option maxHeartbeats 4000000 in
theorem encVector0 {u : PH} {v tv : Value} {T : List (List UInt8 × Nat)} {R : List SRel} {F : List Feat} {lab : Int} {ss : List (List UInt8)} (h : TupP u v tv T R F lab ss) :
  Fn0 Tryz.prog 14 [v, tv] u fun r u' => ∃ lv, r = .tuple #[lv, .int .i64 0] ∧ ListP u' lv 3 ((vecL F ss F.length).map termV) := by
 have htu := encTuple0 h
 have hen := fun (u' : PH) (l : PH.le u u') => entries0 (h.mono l)
 have hor := h
 have hf8 := h.ok.f2
 obtain ⟨⟨xa, xc, xb, xd, xe, xf, rfl, hTL, hRL, hFL⟩, ok, hS, hT⟩ := h
 obtain ⟨ya, yc, rfl⟩ := hS.opn
 rw [List.length_map] at hS htu hen hor ⊢
 refine Fn0.of Tryz.func14 (by kernel_rfl) (by kernel_rfl) ?_
 refine G.call0 _ _ (by kernel_rfl) Tryz.call39 htu ?_
 rintro v1 u1 l1 rfl
 refine G.neqF 0 0 (by kernel_rfl) (by omega) ?_
 refine G.pastI ?_
 refine G.pub 4000 35 [.slice none 0 0] (by kernel_rfl) (by kernel_rfl) ?_
 intro b hb1 hb2
 refine G.call0 _ _ (by kernel_rfl) Tryz.call44 (hen u1 l1) ?_
 rintro v2 u2 l2 ⟨b1, b2, rfl, e1, e2⟩
 refine G.rangeF (rfG Tryz.f14) (rfPs Tryz.f14) (rfX Tryz.f14) (rfY Tryz.f14) 85 [.pointer (some ⟨b1, 0, none⟩), .pointer (some ⟨b2, 0, none⟩)] (fun u' m' => BoxL 35 57 3 b PH.mt ((vecL F ss F.length).map termV) m') (by kernel_rfl) (by kernel_rfl) (by kernel_rfl) Tryz.call85 ?_ ?_
 ·intro l r r1 r2 r3 r4 r5 r6 r7 hl1 hl2
  have hbl : b ≠ l := fun e => by subst e; rw [upd_same] at hl1; cases hl1
  have hps : r.params = #[19, 20] := r3.trans (by kernel_rfl)
  have hn : r.tmps.size = 28 := r6.trans (by kernel_rfl)
  have ht7 : r.tmps[7]? = some (.pointer (some ⟨b, 0, none⟩)) := r7 7 _ (by kernel_rfl)
  have hml : ∀ {es : List Value} {m' : PH}, BoxL 35 57 3 b (blk1 l (.loop r)) es m' → m' l = some (.loop r) := fun h => h.see hbl (blk1_same _ _)
  refine Contract.weak (entries1 (hor.mono (l1.trans l2)) e1 e2 (fun L _ m' => BoxL 35 57 3 b (blk1 l (.loop r)) (L.map termV) m') (fun _ _ _ _ _ h => h) (fun i x u' m' hi hl hJ hx hxi => ?_) ?_) ?_
  ·have hlen : (vecL F ss i).length ≤ 8 := Nat.le_trans (vecL_len F ss i) hf8
   refine yieldC_of (n := 28) (T := [(7, .pointer (some ⟨b, 0, none⟩)), (19, parV x.1), (20, .string (mkS (ratT x.2)))]) (hml hJ) r1 r2 (by rw [hps]; rfl) hn (fun y hy => ?_) ?_
   ·rw [hps, two_params]
    simp only [List.mem_cons, List.not_mem_nil, or_false] at hy
    rcases hy with rfl | rfl | rfl
    ·rw [Array.getElem?_setIfInBounds_ne (by simp), Array.getElem?_setIfInBounds_ne (by simp)]; exact ht7
    ·rw [Array.getElem?_setIfInBounds_ne (by simp)]; simp [hn]
    ·simp [hn]
   ·rw [r4, r5]
    refine RW.seq' (by kernel_rfl) (RW.reg' Tryz.f14 (by kernel_rfl) fun Post J' hJ' => ?_)
    refine G.back (by kernel_rfl) (hJ' _ _ _ (RW.reg' Tryz.f14 (by kernel_rfl) fun Post J2 hJ2 => ?_))
    refine G.back (by kernel_rfl) (hJ2 _ _ _ ⟨hml hJ, RW.block' (by kernel_rfl) (RW.reg' Tryz.f14 (by kernel_rfl) fun Post J3 hJ3 => ?_)⟩)
    have hJb := hJ.base (o := .loop (busy r)) hbl (by rw [blk1_same]; simp)
    obtain ⟨a, c, hA⟩ := hJb
    rw [List.length_map] at hA
    have hbs : ∀ {n c' : Nat} {a' : Option Addr}, (((blk1 l (.loop r)).upd l (.loop (busy r))).upd b (.cells #[.slice a' n c'] 35 (0, 0))) b = some (.cells [Value.slice a' n c'].toArray 35 (0, 0)) := upd_same _ _ _
    refine G.loadM none b 0 (.slice a (vecL F ss i).length c) (by kernel_rfl) (by kernel_rfl) (elP_of (xs := [.slice a (vecL F ss i).length c]) (hA.see hbs) rfl) ?_
    refine G.buildU 57 3 40 (.agg #[.int .i64 0, .string (mkS []), .string (mkS [])]) [.agg #[.int .i64 x.1.1, .string (mkS x.1.2), .string (mkS (ratT x.2))]] (by kernel_rfl) (termV_ok x) rfl (by omega) (by simp) (by simp) ?_
    intro g1 u4 l4 e4
    refine G.append 57 3 40 (.agg #[.int .i64 0, .string (mkS []), .string (mkS [])]) _ ((vecL F ss i).map termV) [.agg #[.int .i64 x.1.1, .string (mkS x.1.2), .string (mkS (ratT x.2))]] (.slice a (vecL F ss i).length c) g1 0 1 1 (by kernel_rfl) rfl rfl (by omega) hA e4 (termV_ok x) rfl (by omega) (by simp; omega) (by simp; omega) ?_
    intro v5 m5 hA5
    rw [show ((vecL F ss i).map termV) ++ [.agg #[.int .i64 x.1.1, .string (mkS x.1.2), .string (mkS (ratT x.2))]] = ((vecL F ss i) ++ [x]).map termV by rw [List.map_append]; rfl] at hA5
    obtain ⟨a5, c5, rfl⟩ := hA5.shape
    refine G.storeM 1 b 0 35 [.slice a (vecL F ss i).length c] (.slice a5 (((vecL F ss i) ++ [x]).map termV).length c5) (by kernel_rfl) (hA5.see hbs) (fun y hy => by simp at hy; subst hy; rfl) (by simp) rfl rfl ?_
    have hA6 := hA5.base (b := b) (o := .cells #[.slice a5 (((vecL F ss i) ++ [x]).map termV).length c5] 35 (0, 0)) (by rw [hbs]; simp)
    rw [upd_upd] at hA6
    have hB : BoxL 35 57 3 b ((blk1 l (.loop r)).upd l (.loop (busy r))) (((vecL F ss i) ++ [x]).map termV) (m5.upd b (.cells #[.slice a5 (((vecL F ss i) ++ [x]).map termV).length c5] 35 (0, 0))) := ⟨a5, c5, hA6⟩
    refine G.back (by kernel_rfl) (hJ3 _ _ _ ⟨hB.see hbl (upd_same _ _ _), ?_⟩)
    have hB2 := hB.base (o := .loop r) hbl (by rw [upd_same]; simp)
    rw [upd_upd] at hB2
    unfold blk1 at hB2 ⊢
    rw [upd_upd] at hB2
    exact hB2
  ·refine ⟨none, 0, ?_⟩
   unfold blk1
   rw [upd_comm _ _ _ (fun e => hbl e.symm)]
   exact ArrAt.nil _ _ _
  ·rintro v' u' m' hJ
   refine ⟨r, by rw [r1]; simp, r2, hml hJ, m'.del l, del_le _ _, del_at _ _, ?_⟩
   obtain ⟨a, c, hA⟩ := hJ
   have := hA.del (l := l) (by rw [upd_ne _ _ (fun e => hbl e.symm), blk1_same]; simp)
   rw [del_upd hbl] at this
   unfold blk1 at this
   rw [del_upd_same rfl] at this
   exact ⟨a, c, this⟩
 ·rintro u3 m3 l3 ⟨a, c, hA⟩
  refine G.giveP (ma := m3) (sm := PH.mt) (by kernel_rfl) (by funext g; unfold PH.or; cases m3 g <;> rfl) (fun g => .inr rfl) (fun g => .inl rfl) ?_
  intro u4 l4 hm4
  have hb4 : m3 b = some (.cells [Value.slice a ((vecL F ss F.length).map termV).length c].toArray 35 (0, 0)) := hA.see (upd_same _ _ _)
  refine G.loadU none b 0 (.slice a ((vecL F ss F.length).map termV).length c) (by kernel_rfl) (by kernel_rfl) ((elP_of (xs := [.slice a ((vecL F ss F.length).map termV).length c]) hb4 rfl).mono hm4) ?_
  exact G.ret (.tuple #[.slice a ((vecL F ss F.length).map termV).length c, .int .i64 0]) (by kernel_rfl) ⟨rfl, _, rfl, hA.list hm4⟩
end Go.Proofs.YtpdboaedoimahaaGreatDoor
end
section
set_option linter.unusedSectionVars false
set_option linter.unusedVariables false
namespace Go.Proofs.YtpdboaedoimahaaGreatDoor
open Go.RowKit Go.MapKept
theorem ArrAt.fresh {m0 m : PH} {v : Value} {t : TypeId} {sz : Nat} {es : List Value} {b : Nat} {o : Obj} (h : ArrAt m0 m v t sz es) (hb : m b = none) : ArrAt (m0.upd b o) (m.upd b o) v t sz es := by
 obtain ⟨ho, h⟩ := h
 rcases h with ⟨h1, h2, rfl⟩ | ⟨g, cap, rest, h1, rfl, h2, h3, h4, h5⟩
 ·exact ⟨ho, .inl ⟨h1, h2, rfl⟩⟩
 ·have hne : g ≠ b := fun e => by subst e; rw [upd_same] at hb; cases hb
  exact ⟨ho, .inr ⟨g, cap, rest, by rw [upd_ne _ _ hne]; exact h1, upd_comm _ _ _ hne, h2, h3, h4, h5⟩⟩
section
variable {P : Program} [Mixed P] {fn : Func} {Post : Spec} {st : List KI × S} {u m : PH}
theorem G.appendL (e : TypeId) (sz bt : Nat) (z : Value) (m0 : PH) (es xs : List Value) (v : Value) (a : Option Addr) (n c : Nat) (h : stopV P (adv P st) = .app (some (e, sz, bt, z)) true [v, .slice a n c]) (hz : z.cells.toList.all cellOK = true) (hzs : z.cells.size = sz) (hsz : 0 < sz)
  (ha : ArrAt m0 m v e sz es) (hx : ListP u (.slice a n c) sz xs) (ho : ElsOK sz xs) (hb : (es.length + xs.length) * bt ≤ 140737488355328) (hb2 : es.length + xs.length ≤ 9223372036854775807)
  (k : ∀ v' m', ArrAt m0 m' v' e sz (es ++ xs) → G P fn Post (nx (adv P st) v') u m') : G P fn Post st u m := by
 have hxl : n = xs.length := by obtain ⟨_, _, e1, _⟩ := hx; cases e1; rfl
 cases xs with
 | nil =>
  simp only [List.length_nil] at hxl
  subst hxl
  obtain ⟨a1, c1, rfl⟩ := ha.shape
  refine G.append0 e sz bt z a1 a es.length c1 c h ha.cap ?_
  exact k _ _ (by rw [List.append_nil]; exact ha)
 | cons x xs =>
  obtain ⟨b, off, rfl, _⟩ := ListP.at' hx (j := 0) (e := x) rfl
  subst hxl
  exact G.append e sz bt z m0 es (x :: xs) v b off _ c h hz hzs hsz ha hx.els ho rfl (by simp) hb hb2 k
end
set_option maxHeartbeats 1000000 in
theorem pIndex0 {u : PH} {v : Value} {L : List Par} {p : Par} {k : Nat} (h : ListP u v 2 (L.map parV)) (hk : L[k]? = some p) (hn : ∀ j, j < k → L[j]? ≠ some p) (hl : L.length ≤ 1000000) :
  Fn0 Tryz.prog 45 [v, parV p] u fun r _ => r = .int .i64 (k : Int) := by
 obtain ⟨a, c, rfl⟩ := h.opn
 rw [List.length_map] at h ⊢
 obtain ⟨hkl, hkp⟩ := List.getElem?_eq_some_iff.1 hk
 refine Fn0.of Tryz.func45 (by kernel_rfl) (by kernel_rfl) ?_
 refine G.loop (ι := Nat) (fun i => [(0, .v (.slice a L.length c)), (3, .p 0 0), (7, .v (.int .i64 (L.length : Int))), (8, .v (.int .i64 (i : Int)))]) (fun _ => [(0, ⟨55, [.v (.int .i64 p.1), .v (.string (mkS p.2))]⟩)])
  (fun i u' m' => i ≤ k ∧ m' = PH.mt) (fun i => k + 1 - i) 0 (by kernel_rfl) (fun _ => by kernel_rfl) ⟨by kernel_rfl, by kernel_rfl, by kernel_rfl⟩ ⟨by omega, rfl⟩ ?_
 rintro J i hJ u1 m1 l1 ⟨hi, rfl⟩
 refine G.lssT (i : Int) (L.length : Int) (by kernel_rfl) (by omega) ?_
 have hLi : L[i]? = some L[i] := List.getElem?_eq_getElem (by omega)
 obtain ⟨ba, oa, rfl, ea⟩ := ListP.at' (h.mono l1) (j := i) (e := parV L[i]) (by simp [hLi])
 refine G.addr ba oa L.length c i 2 (by kernel_rfl) (by omega) ?_
 refine G.loadU (some 2) ba (oa + i * 2) (.agg #[.int .i64 L[i].1, .string (mkS L[i].2)]) (by kernel_rfl) (by kernel_rfl) ea ?_
 by_cases he : p = L[i]
 ·have hik : i = k := by
   rcases Nat.lt_or_ge i k with e | e
   ·exact absurd (by rw [hLi, ← he]) (hn i e)
   ·omega
  refine G.eqAgg 55 #[.int .i64 p.1, .string (mkS p.2)] #[.int .i64 L[i].1, .string (mkS L[i].2)] true (by kernel_rfl) (by kernel_rfl) (by kernel_rfl) (fun w => by rw [← decide_eq_true he]; exact keyPar.eq p L[i] w) ?_
  exact G.ret (.int .i64 (i : Int)) (by kernel_rfl) ⟨rfl, by rw [hik]⟩
 ·have hik : i ≠ k := fun e => by subst e; exact he hkp.symm
  refine G.eqAgg 55 #[.int .i64 p.1, .string (mkS p.2)] #[.int .i64 L[i].1, .string (mkS L[i].2)] false (by kernel_rfl) (by kernel_rfl) (by kernel_rfl) (fun w => by rw [← decide_eq_false he]; exact keyPar.eq p L[i] w) ?_
  refine G.add (i : Int) 1 ((i + 1 : Nat) : Int) (by kernel_rfl) (by omega) (by omega) (by omega) ?_
  exact G.back (by kernel_rfl) (hJ (i + 1) _ _ _ ⟨by kernel_rfl, by kernel_rfl, by kernel_rfl⟩ l1 ⟨by omega, rfl⟩ (by omega))
def denL (P : List Par) (L : List (Par × Rat)) : List (List UInt8) := [49] :: P.map fun p => ratT (assocQ p L)
theorem denL_len (P : List Par) (L : List (Par × Rat)) : (denL P L).length = P.length + 1 := by unfold denL; simp
theorem denL_nil (P : List Par) : denL P [] = [49] :: List.replicate P.length [48] := by
 unfold denL
 congr 1
 have : (fun p : Par => ratT (assocQ p [])) = fun _ => [48] := by funext p; unfold assocQ; exact ratT_zero
 rw [this, List.map_const']
theorem assocQ_put {κ : Type} [DecidableEq κ] {a : κ} {x : κ × Rat} : ∀ {L : List (κ × Rat)}, x.1 ∉ L.map (·.1) → assocQ a (L ++ [x]) = if a = x.1 then x.2 else assocQ a L
 | [], _ => by obtain ⟨b, q⟩ := x; simp [assocQ]
 | (b, q) :: L, h => by
  rw [List.map_cons, List.mem_cons, not_or] at h
  rw [List.cons_append]
  unfold assocQ
  by_cases e : a = b
  ·rw [if_pos e, if_neg (fun e' => h.1 (by rw [← e', e]))]; simp [e]
  ·rw [if_neg e, assocQ_put h.2]
   simp [e]
theorem nodup_at {κ : Type} {l : List κ} (h : l.Nodup) {i j : Nat} {x : κ} (h1 : l[i]? = some x) (h2 : l[j]? = some x) : i = j := by
 obtain ⟨a1, a2⟩ := List.getElem?_eq_some_iff.1 h1
 obtain ⟨b1, b2⟩ := List.getElem?_eq_some_iff.1 h2
 rcases Nat.lt_trichotomy i j with e | e | e
 ·exact absurd (a2.trans b2.symm) (List.pairwise_iff_getElem.1 h i j a1 b1 e)
 ·exact e
 ·exact absurd (b2.trans a2.symm) (List.pairwise_iff_getElem.1 h j i b1 a1 e)
theorem denL_snoc {P : List Par} {L : List (Par × Rat)} {x : Par × Rat} {k : Nat} (hk : P[k]? = some x.1) (hn : P.Nodup) (hx : x.1 ∉ L.map (·.1)) : (denL P L).set (k + 1) (ratT x.2) = denL P (L ++ [x]) := by
 unfold denL
 rw [List.set_cons_succ]
 congr 1
 obtain ⟨hkl, hkp⟩ := List.getElem?_eq_some_iff.1 hk
 refine List.ext_getElem (by simp) fun j h1 h2 => ?_
 rw [List.getElem_set]
 simp only [List.getElem_map]
 rw [assocQ_put hx]
 by_cases e : k = j
 ·subst e; rw [if_pos rfl, if_pos hkp]
 ·rw [if_neg e, if_neg]
  intro e'
  simp at h1
  exact e (nodup_at hn hk (by rw [List.getElem?_eq_getElem (by simpa using h1), e']))
set_option maxHeartbeats 8000000 in
theorem encDense0 {u : PH} {v pv tv : Value} {T : List (List UInt8 × Nat)} {R : List SRel} {F : List Feat} {lab : Int} {ss : List (List UInt8)} {Q : List Par} (h : TupP u v tv T R F lab ss) (hQ : ListP u pv 2 (Q.map parV)) (hs : SortK cmpP Q) (hin : ∀ x ∈ vecL F ss F.length, x.1 ∈ Q) (hl : Q.length ≤ 100000) :
  Fn0 Tryz.prog 13 [v, pv, tv] u fun r u' => ∃ lv, r = .tuple #[lv, .int .i64 0] ∧ ListP u' lv 1 ((denL Q (vecL F ss F.length)).map nmV) := by
 have htu := encTuple0 h
 have hen := fun (u' : PH) (l : PH.le u u') => entries0 (h.mono l)
 have hor := h
 have hf8 := h.ok.f2
 obtain ⟨⟨xa, xc, xb, xd, xe, xf, rfl, hTL, hRL, hFL⟩, ok, hS, hT⟩ := h
 obtain ⟨ya, yc, rfl⟩ := hS.opn
 obtain ⟨pa, pc, rfl⟩ := hQ.opn
 rw [List.length_map] at hS htu hen hor hQ ⊢
 rw [List.length_map] at ⊢
 have hnd := hs.nodup ordP
 refine Fn0.of Tryz.func13 (by kernel_rfl) (by kernel_rfl) ?_
 refine G.call0 _ _ (by kernel_rfl) Tryz.call39 htu ?_
 rintro v1 u1 l1 rfl
 refine G.neqF 0 0 (by kernel_rfl) (by omega) ?_
 refine G.loop (ι := Nat) (fun i => [(2, .v (.slice ya ss.length yc)), (3, .p 0 0), (4, .p 1 0), (6, .p 2 0), (7, .p 3 0), (9, .v (.int .i64 (i : Int)))])
  (fun _ => [(0, ⟨30, [.v (.slice xa T.length xc), .v (.slice xb R.length xd), .v (.slice xe F.length xf), .v (.int .i64 lab)]⟩), (1, ⟨41, [.v (.slice pa Q.length pc)]⟩), (2, ⟨49, [.v (.slice none 0 0)]⟩), (3, ⟨42, [.v (.int .i64 0)]⟩)])
  (fun i u' m' => 1 ≤ i ∧ m' = PH.mt) (fun i => Q.length - i) 1 (by kernel_rfl) (fun _ => by kernel_rfl) ⟨by kernel_rfl, by kernel_rfl, by kernel_rfl⟩ ⟨by omega, rfl⟩ ?_
 rintro J i hJ u2 m2 l2 ⟨hi, rfl⟩
 by_cases hlt : i < Q.length
 ·refine G.lssT (i : Int) (Q.length : Int) (by kernel_rfl) (by omega) ?_
  have hQ2 := hQ.mono (l1.trans l2)
  have hQi : Q[i]? = some Q[i] := List.getElem?_eq_getElem hlt
  have hQj : Q[i - 1]? = some (Q[i - 1]'(by omega)) := List.getElem?_eq_getElem (by omega)
  have hcm : cmpP (Q[i - 1]'(by omega)) Q[i] < 0 := List.pairwise_iff_getElem.1 hs (i - 1) i (by omega) hlt (by omega)
  obtain ⟨ba, oa, e0, ea⟩ := ListP.at' hQ2 (j := i) (e := parV Q[i]) (by simp [hQi])
  obtain ⟨ba', oa', e0', eb⟩ := ListP.at' hQ2 (j := i - 1) (e := parV (Q[i - 1]'(by omega))) (by simp [hQj])
  rw [e0] at e0'
  cases e0'
  subst e0
  refine G.sub (i : Int) 1 ((i - 1 : Nat) : Int) (by kernel_rfl) (by omega) (by omega) (by omega) ?_
  refine G.addr ba oa Q.length pc (i - 1) 2 (by kernel_rfl) (by omega) ?_
  refine G.loadU (some 2) ba (oa + (i - 1) * 2) (parV (Q[i - 1]'(by omega))) (by kernel_rfl) (by kernel_rfl) eb ?_
  refine G.addr ba oa Q.length pc i 2 (by kernel_rfl) hlt ?_
  refine G.loadU (some 2) ba (oa + i * 2) (parV Q[i]) (by kernel_rfl) (by kernel_rfl) ea ?_
  refine G.call0 _ _ (by kernel_rfl) Tryz.call42 (less0 _ _ true (decide_eq_true hcm)) ?_
  rintro v3 u3 l3 rfl
  refine G.add (i : Int) 1 ((i + 1 : Nat) : Int) (by kernel_rfl) (by omega) (by omega) (by omega) ?_
  exact G.back (by kernel_rfl) (hJ (i + 1) _ _ _ ⟨by kernel_rfl, by kernel_rfl, by kernel_rfl⟩ (l2.trans l3) ⟨by omega, rfl⟩ (by omega))
 refine G.lssF (i : Int) (Q.length : Int) (by kernel_rfl) (by omega) ?_
 clear hJ
 refine G.pub 1 41 [.slice pa Q.length pc] (by kernel_rfl) (by kernel_rfl) ?_
 intro bp hbp1 hbp2
 refine G.buildM 34 1 16 (.string (mkS [])) [.string (mkS [49])] (by kernel_rfl) (strsV_ok [[49]]) rfl (by omega) (by simp) (by simp) ?_
 intro g3 m3 hA3
 refine G.buildU 34 1 16 (.string (mkS [])) [.string (mkS [48])] (by kernel_rfl) (strsV_ok [[48]]) rfl (by omega) (by simp) (by simp) ?_
 intro g4 u4 l4 e4
 have hLP : ListP u4 (.slice (some ⟨g4, 0, none⟩) 1 1) 1 [.string (mkS [48])] := ⟨_, 1, rfl, Nat.le_refl _, fun j e hj => ⟨g4, 0, rfl, e4 j e hj⟩⟩
 refine G.loadM none bp 0 (.slice pa Q.length pc) (by kernel_rfl) (by kernel_rfl) (elP_of (xs := [.slice pa Q.length pc]) (hA3.see (upd_same _ _ _)) rfl) ?_
 refine G.call0 _ _ (by kernel_rfl) Tryz.call43 (repeatS0 (n := Q.length) hLP (strsV_ok [[48]]) (by omega)) ?_
 intro v5 u5 l5 k5
 obtain ⟨a5, c5, rfl⟩ := ListP.opn k5
 have hd0 : (denL Q []).map nmV = [Value.string (mkS [49])] ++ List.replicate Q.length (Value.string (mkS [48])) := by
  rw [denL_nil, List.map_cons, List.map_replicate]; rfl
 refine G.appendL 34 1 16 (.string (mkS [])) _ [.string (mkS [49])] (List.replicate Q.length (.string (mkS [48]))) _ a5 _ c5 (by kernel_rfl) rfl rfl (by omega) hA3 k5 ((strsV_ok [[48]]).replicate _) (by simp; omega) (by simp; omega) ?_
 intro v6 m6 hA6
 rw [← hd0] at hA6
 obtain ⟨a6, c6, rfl⟩ := hA6.shape
 refine G.pub 9006 49 [.slice a6 ((denL Q []).map nmV).length c6] (by kernel_rfl) (by kernel_rfl) ?_
 intro b hb1 hb2
 have hbp : m6 bp = some (.cells [Value.slice pa Q.length pc].toArray 41 (0, 0)) := hA6.see (upd_same _ _ _)
 have hbb : b ≠ bp := fun e => by subst e; rw [hbp] at hb2; cases hb2
 have hA7 := hA6.fresh (o := .cells [Value.slice a6 ((denL Q []).map nmV).length c6].toArray 49 (0, 0)) hb2
 have le5 : PH.le u u5 := (((l1.trans l2).trans l4).trans l5)
 refine G.call0 _ _ (by kernel_rfl) Tryz.call44 (hen u5 le5) ?_
 rintro v8 u8 l8 ⟨b1, b2, rfl, e1, e2⟩
 obtain ⟨mr, hmr⟩ : ∃ mr, mr = blk1 bp (.cells [Value.slice pa Q.length pc].toArray 41 (0, 0)) := ⟨_, rfl⟩
 have hB0 : BoxL 49 34 1 b mr ((denL Q []).map nmV) (m6.upd b (.cells [Value.slice a6 ((denL Q []).map nmV).length c6].toArray 49 (0, 0))) := by
  rw [hmr]; exact ⟨a6, c6, hA7⟩
 have hmp : mr bp = some (.cells [Value.slice pa Q.length pc].toArray 41 (0, 0)) := by rw [hmr]; exact blk1_same _ _
 have hdsee : ∀ {es : List Value} {m' : PH}, BoxL 49 34 1 b mr es m' → PH.le mr m' := fun h => (by
  obtain ⟨a, c, h⟩ := h
  exact fun g o hg => h.see (by rw [upd_ne _ _ (fun e => by rw [hmr] at hg; rw [e, blk1_ne _ hbb] at hg; cases hg)]; exact hg))
 refine G.rangeF (rfG Tryz.f13) (rfPs Tryz.f13) (rfX Tryz.f13) (rfY Tryz.f13) 85 [.pointer (some ⟨b1, 0, none⟩), .pointer (some ⟨b2, 0, none⟩)] (fun u' m' => BoxL 49 34 1 b mr ((denL Q (vecL F ss F.length)).map nmV) m') (by kernel_rfl) (by kernel_rfl) (by kernel_rfl) Tryz.call85 ?_ ?_
 ·intro l r r1 r2 r3 r4 r5 r6 r7 hl1 hl2
  have hbl : b ≠ l := fun e => by subst e; rw [upd_same] at hl1; cases hl1
  have hpl : bp ≠ l := fun e => by subst e; rw [upd_ne _ _ (fun e => hbb e.symm), hbp] at hl1; cases hl1
  have hmrl : mr l = none := by rw [hmr]; exact blk1_ne _ (fun e => hpl e.symm)
  have hps : r.params = #[46, 47] := r3.trans (by kernel_rfl)
  have hn : r.tmps.size = 59 := r6.trans (by kernel_rfl)
  have ht4 : r.tmps[4]? = some (.pointer (some ⟨bp, 0, none⟩)) := r7 4 _ (by kernel_rfl)
  have ht10 : r.tmps[10]? = some (.pointer (some ⟨b, 0, none⟩)) := r7 10 _ (by kernel_rfl)
  have hml : ∀ {es : List Value} {m' : PH}, BoxL 49 34 1 b (mr.upd l (.loop r)) es m' → m' l = some (.loop r) := fun h => h.see hbl (upd_same _ _ _)
  refine Contract.weak (entries1 (hor.mono (le5.trans l8)) e1 e2 (fun L u' m' => PH.le u8 u' ∧ BoxL 49 34 1 b (mr.upd l (.loop r)) ((denL Q L).map nmV) m') (fun _ _ _ _ hl h => ⟨h.1.trans hl, h.2⟩) (fun i x u' m' hi hl hJ hx hxi => ?_) ?_) ?_
  ·obtain ⟨hJl, hJ⟩ := hJ
   have hxQ := hin x hx
   obtain ⟨k, hk, hkx⟩ := List.getElem_of_mem hxQ
   have hkx' : Q[k]? = some x.1 := by rw [List.getElem?_eq_getElem hk, hkx]
   have hxn : x.1 ∉ (vecL F ss i).map (·.1) := fun hm => by
    obtain ⟨y, hy, hye⟩ := List.mem_map.1 hm
    obtain ⟨j, f, hj, _, hv⟩ := mem_vecL.1 hy
    have := vecO_key hv
    rw [hye] at this
    omega
   refine yieldC_of (n := 59) (T := [(4, .pointer (some ⟨bp, 0, none⟩)), (10, .pointer (some ⟨b, 0, none⟩)), (46, parV x.1), (47, .string (mkS (ratT x.2)))]) (hml hJ) r1 r2 (by rw [hps]; rfl) hn (fun y hy => ?_) ?_
   ·rw [hps, two_params]
    simp only [List.mem_cons, List.not_mem_nil, or_false] at hy
    rcases hy with rfl | rfl | rfl | rfl
    ·rw [Array.getElem?_setIfInBounds_ne (by simp), Array.getElem?_setIfInBounds_ne (by simp)]; exact ht4
    ·rw [Array.getElem?_setIfInBounds_ne (by simp), Array.getElem?_setIfInBounds_ne (by simp)]; exact ht10
    ·rw [Array.getElem?_setIfInBounds_ne (by simp)]; simp [hn]
    ·simp [hn]
   ·rw [r4, r5]
    refine RW.seq' (by kernel_rfl) (RW.reg' Tryz.f13 (by kernel_rfl) fun Post J' hJ' => ?_)
    refine G.back (by kernel_rfl) (hJ' _ _ _ (RW.reg' Tryz.f13 (by kernel_rfl) fun Post J2 hJ2 => ?_))
    have hJb := hJ.base (o := .loop (busy r)) hbl (by rw [upd_same]; simp)
    rw [upd_upd] at hJb
    have hpm : (m'.upd l (.loop (busy r))) bp = some (.cells [Value.slice pa Q.length pc].toArray 41 (0, 0)) := hJb.see hbb.symm.symm (by rw [upd_ne _ _ hpl]; exact hmp)
    obtain ⟨a, c, hA⟩ := hJb
    have hbs : ∀ {n c' : Nat} {a' : Option Addr}, ((mr.upd l (.loop (busy r))).upd b (.cells #[.slice a' n c'] 49 (0, 0))) b = some (.cells [Value.slice a' n c'].toArray 49 (0, 0)) := upd_same _ _ _
    refine G.back (by kernel_rfl) (hJ2 _ _ _ ⟨hml hJ, RW.block' (by kernel_rfl) (RW.seq' (by kernel_rfl) (RW.reg' Tryz.f13 (by kernel_rfl) fun Post J3 hJ3 => ?_))⟩)
    refine G.loadM none bp 0 (.slice pa Q.length pc) (by kernel_rfl) (by kernel_rfl) (elP_of (xs := [.slice pa Q.length pc]) hpm rfl) ?_
    refine G.call0 _ _ (by kernel_rfl) Tryz.call45 (pIndex0 (hQ.mono ((le5.trans l8).trans hJl)) hkx' (fun j hj hjx => ?_) (by omega)) ?_
    ·have := nodup_at hnd hjx hkx'
     omega
    rintro v9 u9 l9 rfl
    refine G.back (by kernel_rfl) (hJ3 _ _ _ (RW.seq' (by kernel_rfl) (RW.seq' (by kernel_rfl) (RW.reg' Tryz.f13 (by kernel_rfl) fun Post J4 hJ4 => ?_))))
    refine G.lssF (k : Int) 0 (by kernel_rfl) (by omega) ?_
    refine G.back (by kernel_rfl) (hJ4 _ _ _ (RW.condF' (by kernel_rfl) (by kernel_rfl) (RW.skip' (by kernel_rfl) ?_)))
    refine RW.reg' Tryz.f13 (by kernel_rfl) fun Post J5 hJ5 => ?_
    refine G.loadM none b 0 (.slice a ((denL Q (vecL F ss i)).map nmV).length c) (by kernel_rfl) (by kernel_rfl) (elP_of (xs := [.slice a ((denL Q (vecL F ss i)).map nmV).length c]) (hA.see hbs) rfl) ?_
    obtain ⟨g, c', hgc⟩ := hA.ptr (by unfold denL; simp)
    cases hgc
    refine G.add (k : Int) 1 ((k + 1 : Nat) : Int) (by kernel_rfl) (by omega) (by omega) (by omega) ?_
    have hlen : ((denL Q (vecL F ss i)).map nmV).length = Q.length + 1 := by rw [List.length_map, denL_len]
    refine G.addr g 0 ((denL Q (vecL F ss i)).map nmV).length c (k + 1) 1 (by kernel_rfl) (by omega) ?_
    refine G.storeA 1 _ ((denL Q (vecL F ss i)).map nmV) g ((denL Q (vecL F ss i)).map nmV).length c (k + 1) (.string (mkS (ratT x.2))) (by kernel_rfl) hA (by omega) rfl rfl ?_
    intro m10 hA10
    have hset : ((denL Q (vecL F ss i)).map nmV).set (k + 1) (.string (mkS (ratT x.2))) = (denL Q (vecL F ss i ++ [x])).map nmV := by
     rw [← denL_snoc hkx' hnd hxn, List.map_set]; rfl
    have hl2 : ((denL Q (vecL F ss i)).map nmV).length = ((denL Q (vecL F ss i ++ [x])).map nmV).length := by simp [denL_len]
    rw [hset, hl2] at hA10
    have hB : BoxL 49 34 1 b (mr.upd l (.loop (busy r))) ((denL Q (vecL F ss i ++ [x])).map nmV) m10 := ⟨_, _, hA10⟩
    refine G.back (by kernel_rfl) (hJ5 _ _ _ ⟨hB.see hbl (upd_same _ _ _), hJl.trans l9, ?_⟩)
    have hB2 := hB.base (o := .loop r) hbl (by rw [upd_same]; simp)
    rw [upd_upd] at hB2
    exact hB2
  ·refine ⟨PH.le_refl _, ?_⟩
   obtain ⟨a, c, h⟩ := hB0
   refine ⟨a, c, ?_⟩
   rw [upd_comm _ _ _ (fun e => hbl e.symm)]
   exact h.fresh hl1
  ·rintro v' u' m' ⟨_, hJ⟩
   refine ⟨r, by rw [r1]; simp, r2, hml hJ, m'.del l, del_le _ _, del_at _ _, ?_⟩
   obtain ⟨a, c, hA⟩ := hJ
   have := hA.del (l := l) (by rw [upd_ne _ _ (fun e => hbl e.symm), upd_same]; simp)
   rw [del_upd hbl, del_upd_same hmrl] at this
   exact ⟨a, c, this⟩
 ·rintro u9 m9 l9 ⟨a, c, hA⟩
  refine G.giveP (ma := m9) (sm := PH.mt) (by kernel_rfl) (by funext g; unfold PH.or; cases m9 g <;> rfl) (fun g => .inr rfl) (fun g => .inl rfl) ?_
  intro u10 l10 hm10
  have hb10 : m9 b = some (.cells [Value.slice a ((denL Q (vecL F ss F.length)).map nmV).length c].toArray 49 (0, 0)) := hA.see (upd_same _ _ _)
  refine G.loadU none b 0 (.slice a ((denL Q (vecL F ss F.length)).map nmV).length c) (by kernel_rfl) (by kernel_rfl) ((elP_of (xs := [.slice a ((denL Q (vecL F ss F.length)).map nmV).length c]) hb10 rfl).mono hm10) ?_
  exact G.ret (.tuple #[.slice a ((denL Q (vecL F ss F.length)).map nmV).length c, .int .i64 0]) (by kernel_rfl) ⟨rfl, _, rfl, hA.list hm10⟩
end Go.Proofs.YtpdboaedoimahaaGreatDoor
end
section
set_option linter.unusedSectionVars false
set_option linter.unusedVariables false
namespace Go.Proofs.YtpdboaedoimahaaGreatDoor
open Go.RowKit Go.MapKept
def isIxT (T : TypeId) : Op → Bool
 | .indexAddr t _ _ => Nat.beq t T
 | _ => false
section
variable {P : Program} [Mixed P] {fn : Func} {Post : Spec} {st : List KI × S} {u m : PH}
theorem G.addrA (t e : TypeId) (n b off j sz : Nat) (h : stopV P (adv P st) = .addr none (.pointer (some ⟨b, off, none⟩)) (.int .i64 (j : Int))) (hq : stopQ (isIxT t) (adv P st) = true) (hu : P.underlying t = some (.array n e)) (hs : szB P e = some sz) (hj : j < n)
  (k : G P fn Post (nx (adv P st) (.pointer (some ⟨b, off + j * sz, none⟩))) u m) : G P fn Post st u m := by
 refine G.askQ (isIxT t) h hq (by simp) (fun env o hview hQ w _ => ?_) k
 obtain ⟨t', X, I, e1, e2, e3, _⟩ := view_addr hview
 rw [e1] at hQ
 have ht := Nat.eq_of_beq_eq_true hQ
 subst ht
 obtain ⟨dst, opp, type, pos, after, guard⟩ := o
 simp only at e1; subst e1
 have h1 : (0 : Int) ≤ j ∧ (j : Int) < n := by omega
 simp [execOp, Instr.indexAt, Instr.sureAddr, asIntOf, e2, e3, run_underlying hu, h1, run_sizeOf' hs, addr_add]
 intro hh; omega
end
theorem pr_el {m : PH} {b : Nat} {t : TypeId} {k : Par × Par} (h : m b = some (.cells [Value.int .i64 k.1.1, .string (mkS k.1.2), .int .i64 k.2.1, .string (mkS k.2.2)].toArray t (0, 0))) : ElP m b (0 + 0 * 2) (parV k.1) ∧ ElP m b (0 + 1 * 2) (parV k.2) := by
 have h0 : ElP m b 0 (.agg #[.int .i64 k.1.1, .string (mkS k.1.2), .int .i64 k.2.1, .string (mkS k.2.2)]) := elP_of h rfl
 refine ⟨h0.sub (k := 0) fun i y hy => ?_, h0.sub (k := 2) fun i y hy => ?_⟩
 ·match i, hy with
  | 0, hy => simpa [parV, Value.cells] using hy
  | 1, hy => simpa [parV, Value.cells] using hy
  | i + 2, hy => simp [parV, Value.cells] at hy
 ·match i, hy with
  | 0, hy => simpa [parV, Value.cells] using hy
  | 1, hy => simpa [parV, Value.cells] using hy
  | i + 2, hy => simp [parV, Value.cells] at hy
theorem SB.ten {q : Rat} (h : SB q) : Sz q 10000000000 := h.sz.mono (by omega)
theorem KO.fix {k : Par × Par} (h : KO k) : pairP k.1 k.2 = k := by unfold pairP; rw [if_neg h]
theorem MapF.at {κ : Type} [DecidableEq κ] {enc : κ → Value} {K : κ → Prop} {u : PH} {o : Obj} {f : κ → Rat} {N : Nat} (h : MapF enc K u o f N) :
  ∃ l : List (κ × Value), MapO enc o l ∧ (∀ p ∈ l, QP u p.2 (f p.1) ∧ K p.1) ∧ (∀ k, k ∉ l.map (·.1) → f k = 0) ∧ l.length ≤ N := by
 obtain ⟨l, h1, h2, h3, h4⟩ := h
 exact ⟨l, h1, fun p hp => ⟨(h2 p hp).1, (h2 p hp).2.1⟩, h3, h4⟩
set_option maxHeartbeats 4000000 in
theorem refReadF0 {u : PH} {v : Value} {F : CF} {K : Nat} (h : CofP u v F K) (sF : CFS F) (vF : CFV F) (hK : K ≤ 1000000) :
  Contract Tryz.prog 59 [v] u PH.mt fun r u' m' => FulM m' u' r F K := by
 obtain ⟨T, Q, a1, c1, a2, c2, rfl, hT, hQ, cT, cQ, kT, kQ⟩ := h
 have hnT := SortK.nodup ordP cT.srt
 have hnQ := SortK.nodup ordQ cQ.srt
 refine Contract.of Tryz.func59 (by kernel_rfl) (by kernel_rfl) ?_
 refine G.callO _ _ (by kernel_rfl) Tryz.call57 (refEmpty0 (n := 0) (by omega) (by omega)) ?_
 rintro v1 u1 m1 l1 ⟨b, a, n, c, b', a', n', c', g1, g2, o1, o2, rfl, k1, hne, rfl, s1, s2⟩ _
 rw [mt_or]
 refine G.call0 _ _ (by kernel_rfl) Tryz.call60 (refReadT (SB.tx sF.c)) ?_
 intro v2 u2 l2 k2
 obtain ⟨d, e, x, y, e', x', y', rfl, _⟩ := k2.opn
 refine G.loop (ι := Nat) (fun i => [(1, .p 0 0), (2, .p 1 0), (3, .p 1001 0), (14, .v (.slice a1 T.length c1)), (15, .v (.int .i64 (T.length : Int))), (16, .v (.int .i64 (i : Int)))])
  (fun _ => [(0, ⟨38, [.v (.string (mkS (ratT F.c))), .v (.slice a1 T.length c1), .v (.slice a2 Q.length c2)]⟩), (1, ⟨128, [.v (.bool false), .v (.slice none 0 0), .v (.bool false), .v (.slice none 0 0), .v (.map none), .v (.map none)]⟩), (1001, ⟨128, [.v (.bool d), .v (.slice e x y), .v (.bool false), .v (.slice e' x' y'), .v (.map (some g1)), .v (.map (some g2))]⟩)])
  (fun i u' m' => i ≤ T.length ∧ ∃ o, m' = (PH.mt.upd g1 o).upd g2 o2 ∧ MapF parV KT u' o (fun k => assocQ k (T.take i)) i) (fun i => T.length - i) 0 (by kernel_rfl) (fun _ => by kernel_rfl) ⟨by kernel_rfl, by kernel_rfl, by kernel_rfl⟩ ⟨by omega, o1, rfl, (s1.mono l2).congr fun k => by simp [assocQ]⟩ ?_
 rintro J i hJ u3 m3 l3 ⟨hi, o, rfl, hM⟩
 by_cases hlt : i < T.length
 ·refine G.lssT (i : Int) (T.length : Int) (by kernel_rfl) (by omega) ?_
  obtain ⟨x9, hTi⟩ : ∃ x, T[i]? = some x := ⟨_, List.getElem?_eq_getElem hlt⟩
  have hmem := List.mem_of_getElem? hTi
  have hval := (cT.val _ hmem).1
  have hnew := take_new hnT hTi
  have htk : T.take (i + 1) = T.take i ++ [x9] := by rw [List.take_add_one, hTi]; rfl
  obtain ⟨ba, oa, rfl, ea⟩ := ListP.at' (hT.mono ((l1.trans l2).trans l3)) (j := i) (e := termV x9) (by simp [hTi])
  obtain ⟨⟨p1, p2⟩, q⟩ := x9
  simp only at hval hnew
  have hsq : SB q := by rw [hval]; exact sF.s _
  refine G.addr ba oa T.length c1 i 3 (by kernel_rfl) hlt ?_
  refine G.loadU (some 3) ba (oa + i * 3) (.agg #[.int .i64 p1, .string (mkS p2), .string (mkS (ratT q))]) (by kernel_rfl) (by kernel_rfl) ea ?_
  refine G.call0 _ _ (by kernel_rfl) Tryz.call60 (refReadT (SB.tx hsq)) ?_
  intro v4 u4 l4 k4
  obtain ⟨b4, a4, n4, c4, a4', n4', c4', rfl, _⟩ := k4.opn
  obtain ⟨l, ho, h2, h3, h4⟩ := hM.mono l4
  refine G.mapPut (et := 124) keyPar g1 o l (p1, p2) (.agg #[.bool b4, .slice a4 n4 c4, .bool false, .slice a4' n4' c4']) (by kernel_rfl) (by kernel_rfl) (by rw [upd_ne _ _ hne, upd_same]) ho ?_
  intro o' ho'
  refine G.add (i : Int) 1 ((i + 1 : Nat) : Int) (by kernel_rfl) (by omega) (by omega) (by omega) ?_
  refine G.back (by kernel_rfl) (hJ (i + 1) _ _ _ ⟨by kernel_rfl, by kernel_rfl, by kernel_rfl⟩ (l3.trans l4) ⟨by omega, o', ?_, ?_⟩ (by omega))
  ·rw [upd_comm _ _ _ (Ne.symm hne), upd_upd]
  ·refine (MapF.put ho h2 h3 h4 ho' k4 trivial hsq.sz).congr fun k => ?_
   rw [htk]
   exact (congrFun (assocQ_snoc hnew) k).symm
 obtain rfl : i = T.length := by omega
 refine G.lssF (T.length : Int) (T.length : Int) (by kernel_rfl) (by omega) ?_
 clear hJ
 rw [List.take_length] at hM
 have hM := hM.congr (Can.fn ordP cT)
 refine G.loop (ι := Nat) (fun i => [(1, .p 0 0), (2, .p 1 0), (3, .p 1001 0), (29, .v (.slice a2 Q.length c2)), (30, .v (.int .i64 (Q.length : Int))), (31, .v (.int .i64 (i : Int)))])
  (fun _ => [(0, ⟨38, [.v (.string (mkS (ratT F.c))), .v (.slice a1 T.length c1), .v (.slice a2 Q.length c2)]⟩), (1, ⟨128, [.v (.bool false), .v (.slice none 0 0), .v (.bool false), .v (.slice none 0 0), .v (.map none), .v (.map none)]⟩), (1001, ⟨128, [.v (.bool d), .v (.slice e x y), .v (.bool false), .v (.slice e' x' y'), .v (.map (some g1)), .v (.map (some g2))]⟩)])
  (fun i u' m' => i ≤ Q.length ∧ ∃ o2', m' = (PH.mt.upd g1 o).upd g2 o2' ∧ MapF prV KO u' o2' (fun k => assocQ k (Q.take i)) i) (fun i => Q.length - i) 0 (by kernel_rfl) (fun _ => by kernel_rfl) ⟨by kernel_rfl, by kernel_rfl, by kernel_rfl⟩ ⟨by omega, o2, rfl, (s2.mono (l2.trans l3)).congr fun k => by simp [assocQ]⟩ ?_
 rintro J i hJ u5 m5 l5 ⟨hi5, o2', rfl, hM2⟩
 have le5 := ((l1.trans l2).trans l3).trans l5
 by_cases hlt : i < Q.length
 ·refine G.lssT (i : Int) (Q.length : Int) (by kernel_rfl) (by omega) ?_
  obtain ⟨x9, hTi⟩ : ∃ x, Q[i]? = some x := ⟨_, List.getElem?_eq_getElem hlt⟩
  have hmem := List.mem_of_getElem? hTi
  obtain ⟨hval, hq0⟩ := cQ.val _ hmem
  have hnew := take_new hnQ hTi
  have htk : Q.take (i + 1) = Q.take i ++ [x9] := by rw [List.take_add_one, hTi]; rfl
  have hko : KO x9.1 := (vF.t _ (by rw [← hval]; exact hq0)).2.2
  obtain ⟨ba, oa, rfl, ea⟩ := ListP.at' (hQ.mono le5) (j := i) (e := prtV x9) (by simp [hTi])
  obtain ⟨⟨⟨p1, p2⟩, r1, r2⟩, q⟩ := x9
  simp only at hval hnew hko
  have hsq : SB q := by rw [hval]; exact sF.t _
  refine G.addr ba oa Q.length c2 i 5 (by kernel_rfl) hlt ?_
  refine G.loadU (some 5) ba (oa + i * 5) (.agg #[.int .i64 p1, .string (mkS p2), .int .i64 r1, .string (mkS r2), .string (mkS (ratT q))]) (by kernel_rfl) (by kernel_rfl) ea ?_
  refine G.buildArr 182 55 (p1, p2) (r1, r2) (by kernel_rfl) (by kernel_rfl) (by kernel_rfl) (by kernel_rfl) ?_
  refine G.call0 _ _ (by kernel_rfl) Tryz.call60 (refReadT (SB.tx hsq)) ?_
  intro v6 u6 l6 k6
  obtain ⟨b4, a4, n4, c4, a4', n4', c4', rfl, _⟩ := k6.opn
  obtain ⟨l, ho, h2, h3, h4⟩ := hM2.mono l6
  refine G.mapPut (et := 124) keyArr g2 o2' l ((p1, p2), (r1, r2)) (.agg #[.bool b4, .slice a4 n4 c4, .bool false, .slice a4' n4' c4']) (by kernel_rfl) (by kernel_rfl) (upd_same _ _ _) ho ?_
  intro o' ho'
  refine G.add (i : Int) 1 ((i + 1 : Nat) : Int) (by kernel_rfl) (by omega) (by omega) (by omega) ?_
  refine G.back (by kernel_rfl) (hJ (i + 1) _ _ _ ⟨by kernel_rfl, by kernel_rfl, by kernel_rfl⟩ (l5.trans l6) ⟨by omega, o', upd_upd _ _ _ _, ?_⟩ (by omega))
  refine (MapF.put ho h2 h3 h4 ho' k6 hko hsq.sz).congr fun k => ?_
  rw [htk]
  exact (congrFun (assocQ_snoc hnew) k).symm
 obtain rfl : i = Q.length := by omega
 refine G.lssF (Q.length : Int) (Q.length : Int) (by kernel_rfl) (by omega) ?_
 rw [List.take_length] at hM2
 have hM2 := hM2.congr (Can.fn ordQ cQ)
 exact G.ret (.agg #[.bool d, .slice e x y, .bool false, .slice e' x' y', .map (some g1), .map (some g2)]) (by kernel_rfl) ⟨_, _, _, _, _, _, _, _, g1, g2, o, o2', rfl, k2.mono (l3.trans l5), hne, rfl, (hM.mono l5).up kT, hM2.up kQ⟩
set_option maxHeartbeats 8000000 in
theorem refAddF0 {u mf : PH} {F H : CF} {N M : Nat} {q : Rat} {vf vg vk : Value} (hf : FulM mf u vf F N) (hg : FulP u vg H M) (hk : QP u vk q) (hq : SB q) (sF : CFS F) (sH : CFS H) (sK : CFS (H.scale q)) (sR : CFS (F.add (H.scale q))) :
  Contract Tryz.prog 58 [vf, vg, vk] u mf fun v u' m' => FulM m' u' v (F.add (H.scale q)) (N + M) := by
 obtain ⟨b, a, n, c, b', a', n', c', g1, g2, o1, o2, rfl, hF, ne3, rfl, h1, h2⟩ := hf
 obtain ⟨wb, wa, wn, wc, wb', wa', wn', wc', w1, w2, p1, p2, rfl, hH, e1, e2, k1, k2⟩ := hg
 obtain ⟨kb, ka, kn, kc, ka', kn', kc', rfl, _⟩ := hk.opn
 obtain ⟨l1, ⟨es1, clk1, rfl, hkv1, hst1⟩, hl1, hz1, hn1⟩ := k1.at
 obtain ⟨l2, ⟨es2, clk2, rfl, hkv2, hst2⟩, hl2, hz2, hn2⟩ := k2.at
 have hnd1 : (l1.map (·.1)).Nodup := MapO.nodup (enc := parV) ⟨es1, clk1, rfl, hkv1, hst1⟩
 have hnd2 : (l2.map (·.1)).Nodup := MapO.nodup (enc := prV) ⟨es2, clk2, rfl, hkv2, hst2⟩
 refine Contract.of Tryz.func58 (by kernel_rfl) (by kernel_rfl) ?_
 refine G.call0 _ _ (by kernel_rfl) Tryz.call114 (refMul0 hH hk (SB.ten sH.c) hq.ten) ?_
 intro v1 u1 le1 r1
 obtain ⟨b1, a1, x1, c1, a1', x1', c1', rfl, _⟩ := r1.opn
 refine G.call0 _ _ (by kernel_rfl) Tryz.call113 (refAdd0 (hF.mono le1) r1 (SB.ten sF.c) (SB.ten sK.c)) ?_
 intro v2 u2 le2 r2
 obtain ⟨b2, a2, x2, c2, a2', x2', c2', rfl, _⟩ := r2.opn
 have le12 := le1.trans le2
 obtain ⟨m2, hm2, hg2, hh2⟩ : ∃ m2 : PH, m2 = (PH.mt.upd g1 o1).upd g2 o2 ∧ m2 g1 = some o1 ∧ m2 g2 = some o2 := ⟨_, rfl, by rw [upd_ne _ _ ne3, upd_same], upd_same _ _ _⟩
 rw [← hm2]
 refine G.mapRange w1 es1 clk1 55 124 (by kernel_rfl) (.inl (le12 _ _ e1)) ?_
 intro it him hiu
 have i1 : g1 ≠ it := fun e => by subst e; rw [him] at hg2; cases hg2
 have i2 : g2 ≠ it := fun e => by subst e; rw [him] at hh2; cases hh2
 refine G.loop (ι := List MapEntry × List (Par × Value)) (fun _ => [(3, .p 0 0), (4, .p 1 0), (5, .p 2 0), (6, .p 3 0), (21, .v (.pointer (some ⟨it, 0, none⟩)))])
  (fun _ => [(0, ⟨128, [.v (.bool b2), .v (.slice a2 x2 c2), .v (.bool false), .v (.slice a2' x2' c2'), .v (.map (some g1)), .v (.map (some g2))]⟩), (1, ⟨128, [.v (.bool wb), .v (.slice wa wn wc), .v (.bool wb'), .v (.slice wa' wn' wc'), .v (.map (some w1)), .v (.map (some w2))]⟩), (2, ⟨124, [.v (.bool kb), .v (.slice ka kn kc), .v (.bool false), .v (.slice ka' kn' kc')]⟩), (3, ⟨128, [.v (.bool false), .v (.slice none 0 0), .v (.bool false), .v (.slice none 0 0), .v (.map none), .v (.map none)]⟩)])
  (fun i u' m' => Seen parV es1 l1 i.1 i.2 ∧ m' it = some (.mapIter (some w1) clk1 (seenOf i.1) clk1) ∧ m' g2 = some o2 ∧ ∃ o1', m' g1 = some o1' ∧ MapF parV KT u' o1' (addL F.s H.s q (i.2.map (·.1))) (N + i.2.length))
  (fun i => l1.length - i.2.length) ([], []) (by kernel_rfl) (fun _ => by kernel_rfl) ⟨by kernel_rfl, by kernel_rfl, by kernel_rfl⟩
  ⟨Seen.nil _ _, upd_same _ _ _, by rw [upd_ne _ _ i2]; exact hh2, o1, by rw [upd_ne _ _ i1]; exact hg2, by
   have : addL F.s H.s q (([] : List (Par × Value)).map (·.1)) = F.s := by funext k; simp [addL]
   dsimp only; rw [this]; exact h1.mono le12⟩ ?_
 rintro J ⟨D, L⟩ hJ u3 m3 le3 ⟨hS, hit, hm2g, o1', hg1, hR⟩
 simp only at hS hit hm2g hg1 hR hJ
 have le13 := le12.trans le3
 refine G.mapNextL keyPar.inj it w1 es1 clk1 l1 D L (by kernel_rfl) (by kernel_rfl) hit (.inl (le13 _ _ e1)) hst1 hkv1 hnd1 hS ?done1 ?next1
 case next1 =>
  rintro ⟨k, xv⟩ e hp hkn he hek hev hS'
  simp only at hkn hek hev
  have hx := (hl1 _ hp).1
  simp only at hx
  obtain ⟨yb, ya, yn, yc, ya', yn', yc', rfl, _⟩ := hx.opn
  refine G.mapEntry it w1 es1 clk1 D e (by kernel_rfl) (upd_same _ _ _) (.inl (le13 _ _ e1)) hst1 he ?_
  rw [hek, hev]
  refine G.call0 _ _ (by kernel_rfl) Tryz.call114 (refMul0 (hx.mono le13) (hk.mono le13) (SB.ten (sH.s k)) hq.ten) ?_
  intro v4 u4 le4 r4
  obtain ⟨b4, a4, x4, c4, a4', x4', c4', rfl, _⟩ := r4.opn
  refine G.callG _ _ (by kernel_rfl) (by kernel_rfl) Tryz.call115 (g := g1) (o := o1') (by rw [upd_ne _ _ i1]; exact hg1)
   (refSumM0 (g2 := some g2) (y1 := b2) (y2 := (a2, x2, c2)) (y3 := false) (y4 := (a2', x2', c2')) (hR.mono le4) r4 (sK.s k) (addL_sb sF.s sR.s k) (by
    have : addL F.s H.s q (L.map (·.1)) k = F.s k := by unfold addL; rw [if_neg hkn]
    rw [this, Rat.add_comm]; exact sR.s k)) ?_
  intro v5 u5 o5 le5 r5
  rw [addL_snoc _ _ _ hkn] at r5
  refine G.back (by kernel_rfl) (hJ (D ++ [e], L ++ [(k, _)]) _ _ _ ⟨by kernel_rfl, by kernel_rfl, by kernel_rfl⟩ ((le3.trans le4).trans le5)
   ⟨hS', by rw [upd_ne _ _ (Ne.symm i1), upd_same], by rw [upd_ne _ _ (Ne.symm ne3), upd_ne _ _ i2]; exact hm2g, o5, upd_same _ _ _, by
    simpa [Nat.add_assoc] using r5⟩ (by have := hS'.len; simp at this; dsimp only; simp; omega))
 case done1 =>
 intro hall
 have hF1 : addL F.s H.s q (L.map (·.1)) = (F.add (H.scale q)).s := addL_all _ _ _ fun k hk => hz1 k fun hm => hk (by
  obtain ⟨p, hp, rfl⟩ := List.mem_map.1 hm
  exact List.mem_map.2 ⟨p, hall p hp, rfl⟩)
 rw [hF1] at hR
 have hLl := hS.len
 refine G.mapRange w2 es2 clk2 182 124 (by kernel_rfl) (.inl (le13 _ _ e2)) ?_
 intro it2 him2 hiu2
 have j1 : g1 ≠ it2 := fun e => by subst e; rw [him2] at hg1; cases hg1
 have j2 : g2 ≠ it2 := fun e => by subst e; rw [him2] at hm2g; cases hm2g
 refine G.loop (ι := List MapEntry × List ((Par × Par) × Value)) (fun _ => [(3, .p 0 0), (4, .p 1 0), (5, .p 2 0), (6, .p 3 0), (35, .v (.pointer (some ⟨it2, 0, none⟩)))])
  (fun _ => [(0, ⟨128, [.v (.bool b2), .v (.slice a2 x2 c2), .v (.bool false), .v (.slice a2' x2' c2'), .v (.map (some g1)), .v (.map (some g2))]⟩), (1, ⟨128, [.v (.bool wb), .v (.slice wa wn wc), .v (.bool wb'), .v (.slice wa' wn' wc'), .v (.map (some w1)), .v (.map (some w2))]⟩), (2, ⟨124, [.v (.bool kb), .v (.slice ka kn kc), .v (.bool false), .v (.slice ka' kn' kc')]⟩), (3, ⟨128, [.v (.bool false), .v (.slice none 0 0), .v (.bool false), .v (.slice none 0 0), .v (.map none), .v (.map none)]⟩)])
  (fun i u' m' => Seen prV es2 l2 i.1 i.2 ∧ m' it2 = some (.mapIter (some w2) clk2 (seenOf i.1) clk2) ∧ m' g1 = some o1' ∧ ∃ o2', m' g2 = some o2' ∧ MapF prV KO u' o2' (addL F.t H.t q (i.2.map (·.1))) (N + i.2.length))
  (fun i => l2.length - i.2.length) ([], []) (by kernel_rfl) (fun _ => by kernel_rfl) ⟨by kernel_rfl, by kernel_rfl, by kernel_rfl⟩
  ⟨Seen.nil _ _, upd_same _ _ _, by rw [upd_ne _ _ j1]; exact hg1, o2, by rw [upd_ne _ _ j2]; exact hm2g, by
   have : addL F.t H.t q (([] : List ((Par × Par) × Value)).map (·.1)) = F.t := by funext k; simp [addL]
   dsimp only; rw [this]; exact h2.mono le13⟩ ?_
 rintro J2 ⟨D2, L2⟩ hJ2 u6 m6 le6 ⟨hS2, hit2, hm1g, o2', hg22, hR2⟩
 simp only at hS2 hit2 hm1g hg22 hR2 hJ2
 have le16 := le13.trans le6
 refine G.mapNextL keyArr.inj it2 w2 es2 clk2 l2 D2 L2 (by kernel_rfl) (by kernel_rfl) hit2 (.inl (le16 _ _ e2)) hst2 hkv2 hnd2 hS2 ?done2 ?next2
 case next2 =>
  rintro ⟨k, xv⟩ e hp hkn he hek hev hS'
  simp only at hkn hek hev
  obtain ⟨hx, hko⟩ := hl2 _ hp
  simp only at hx hko
  have hfix := hko.fix
  obtain ⟨yb, ya, yn, yc, ya', yn', yc', rfl, _⟩ := hx.opn
  refine G.mapEntry it2 w2 es2 clk2 D2 e (by kernel_rfl) (upd_same _ _ _) (.inl (le16 _ _ e2)) hst2 he ?_
  rw [hek, hev]
  refine G.pub 8003 182 [.int .i64 k.1.1, .string (mkS k.1.2), .int .i64 k.2.1, .string (mkS k.2.2)] (by kernel_rfl) (by kernel_rfl) ?_
  intro bq hq1 hq2
  have q1 : g1 ≠ bq := fun e => by subst e; rw [upd_ne _ _ j1, hm1g] at hq2; cases hq2
  have q2 : g2 ≠ bq := fun e => by subst e; rw [upd_ne _ _ j2, hg22] at hq2; cases hq2
  have q3 : it2 ≠ bq := fun e => by subst e; rw [upd_same] at hq2; cases hq2
  obtain ⟨pe1, pe2⟩ := pr_el (m := (m6.upd it2 (.mapIter (some w2) clk2 (seenOf (D2 ++ [e])) clk2)).upd bq (.cells [Value.int .i64 k.1.1, .string (mkS k.1.2), .int .i64 k.2.1, .string (mkS k.2.2)].toArray 182 (0, 0))) (upd_same _ _ _)
  refine G.addrA 182 55 2 bq 0 0 2 (by kernel_rfl) (by kernel_rfl) (by kernel_rfl) (by kernel_rfl) (by omega) ?_
  refine G.loadM (some 2) bq (0 + 0 * 2) (.agg #[.int .i64 k.1.1, .string (mkS k.1.2)]) (by kernel_rfl) (by kernel_rfl) pe1 ?_
  refine G.addrA 182 55 2 bq 0 1 2 (by kernel_rfl) (by kernel_rfl) (by kernel_rfl) (by kernel_rfl) (by omega) ?_
  refine G.loadM (some 2) bq (0 + 1 * 2) (.agg #[.int .i64 k.2.1, .string (mkS k.2.2)]) (by kernel_rfl) (by kernel_rfl) pe2 ?_
  refine G.call0 _ _ (by kernel_rfl) Tryz.call114 (refMul0 (hx.mono le16) (hk.mono le16) (SB.ten (sH.t k)) hq.ten) ?_
  intro v4 u4 le4 r4
  obtain ⟨b4, a4, x4, c4, a4', x4', c4', rfl, _⟩ := r4.opn
  refine G.callG _ _ (by kernel_rfl) (by kernel_rfl) Tryz.call116 (g := g2) (o := o2') (by rw [upd_ne _ _ q2, upd_ne _ _ j2]; exact hg22)
   (refProdM0 (g1 := some g1) (y1 := b2) (y2 := (a2, x2, c2)) (y3 := false) (y4 := (a2', x2', c2')) (p := k.1) (r := k.2) (hR2.mono le4) r4 (sK.t k) (by rw [hfix]; exact addL_sb sF.t sR.t k) (by
    have : addL F.t H.t q (L2.map (·.1)) k = F.t k := by unfold addL; rw [if_neg hkn]
    rw [hfix, this, Rat.add_comm]; exact sR.t k)) ?_
  intro v5 u5 o5 le5 r5
  rw [hfix, addL_snoc _ _ _ hkn] at r5
  refine G.back (by kernel_rfl) (hJ2 (D2 ++ [e], L2 ++ [(k, _)]) _ _ _ ⟨by kernel_rfl, by kernel_rfl, by kernel_rfl⟩ ((le6.trans le4).trans le5)
   ⟨hS', by rw [upd_ne _ _ (Ne.symm j2), upd_ne _ _ q3, upd_same], by rw [upd_ne _ _ ne3, upd_ne _ _ q1, upd_ne _ _ j1]; exact hm1g, o5, upd_same _ _ _, by
    simpa [Nat.add_assoc] using r5⟩ (by have := hS'.len; simp at this; dsimp only; simp; omega))
 case done2 =>
 intro hall2
 have hF2 : addL F.t H.t q (L2.map (·.1)) = (F.add (H.scale q)).t := addL_all _ _ _ fun k hk => hz2 k fun hm => hk (by
  obtain ⟨p, hp, rfl⟩ := List.mem_map.1 hm
  exact List.mem_map.2 ⟨p, hall2 p hp, rfl⟩)
 rw [hF2] at hR2
 have hLl2 := hS2.len
 refine G.drop ((PH.mt.upd g1 o1').upd g2 o2') (by kernel_rfl) (fun g o hg => by
  by_cases e : g = g2
  ·subst e; rw [upd_same] at hg; cases hg; exact hg22
  ·rw [upd_ne _ _ e] at hg
   by_cases e : g = g1
   ·subst e; rw [upd_same] at hg; cases hg; exact hm1g
   ·rw [upd_ne _ _ e] at hg; cases hg) ?_
 exact G.ret (.agg #[.bool b2, .slice a2 x2 c2, .bool false, .slice a2' x2' c2', .map (some g1), .map (some g2)]) (by kernel_rfl) ⟨_, _, _, _, _, _, _, _, g1, g2, o1', o2', rfl, r2.mono (le3.trans le6), ne3, rfl, (hR.mono le6).up (by omega), hR2.up (by omega)⟩
end Go.Proofs.YtpdboaedoimahaaGreatDoor
end
section
set_option linter.unusedSectionVars false
set_option linter.unusedVariables false
namespace Go.Proofs.YtpdboaedoimahaaGreatDoor
open Go.RowKit Go.MapKept
set_option maxHeartbeats 16000000 in
theorem refMulF0 {u : PH} {F H : CF} {N M : Nat} {v w : Value} (hv : FulP u v F N) (hw : FulP u w H M) (ok : MulOK F H) :
  Contract Tryz.prog 105 [v, w] u PH.mt fun v' u' m' => FulM m' u' v' (F.mul H) (M + N + N * M) := by
 obtain ⟨vb, va, vn, vc, vb', va', vn', vc', v1, v2, q1, q2, rfl, hvc, f1, f2, s1, s2⟩ := id hv
 obtain ⟨wb, wa, wn, wc, wb', wa', wn', wc', w1, w2, p1, p2, rfl, hwc, e1, e2, t1, t2⟩ := id hw
 obtain ⟨lv, ⟨esv, clv, rfl, hkv, hsv⟩, hlv, hzv, hnv⟩ := s1.at
 obtain ⟨lw, ⟨esw, clw, rfl, hkw, hsw⟩, hlw, hzw, hnw⟩ := t1.at
 obtain ⟨kv, ⟨fsv, dlv, rfl, hkv2, hsv2⟩, hlv2, hzv2, hnv2⟩ := s2.at
 obtain ⟨kw, ⟨fsw, dlw, rfl, hkw2, hsw2⟩, hlw2, hzw2, hnw2⟩ := t2.at
 have hndv : (lv.map (·.1)).Nodup := MapO.nodup (enc := parV) ⟨esv, clv, rfl, hkv, hsv⟩
 have hndw : (lw.map (·.1)).Nodup := MapO.nodup (enc := parV) ⟨esw, clw, rfl, hkw, hsw⟩
 have hndv2 : (kv.map (·.1)).Nodup := MapO.nodup (enc := prV) ⟨fsv, dlv, rfl, hkv2, hsv2⟩
 have hndw2 : (kw.map (·.1)).Nodup := MapO.nodup (enc := prV) ⟨fsw, dlw, rfl, hkw2, hsw2⟩
 refine Contract.of Tryz.func105 (by kernel_rfl) (by kernel_rfl) ?_
 refine G.callO _ _ (by kernel_rfl) Tryz.call57 (refEmpty0 (n := 0) (by omega) (by omega)) ?_
 rintro v3 u3 m3 l3 ⟨b, a, n, c, b', a', n', c', g1, g2, o1, o2, rfl, _, ne3, rfl, h1, h2⟩ _
 rw [mt_or]
 refine G.call0 _ _ (by kernel_rfl) Tryz.call114 (refMul0 (hvc.mono l3) (hwc.mono l3) (SB.ten ok.a.c) (SB.ten ok.b.c)) ?_
 intro v5 u5 l5 r5
 obtain ⟨b2, a2, x2, c2, a2', x2', c2', rfl, _⟩ := r5.opn
 have le5 := l3.trans l5
 obtain ⟨m5, hm5, hg5, hh5⟩ : ∃ m5 : PH, m5 = (PH.mt.upd g1 o1).upd g2 o2 ∧ m5 g1 = some o1 ∧ m5 g2 = some o2 := ⟨_, rfl, by rw [upd_ne _ _ ne3, upd_same], upd_same _ _ _⟩
 rw [← hm5]
 have hc1 : CFS (F.scale H.c) := ok.d
 have hc2 : CFS (H.scale F.c) := ok.c
 have hsum : ∀ k, SB ((F.scale H.c).s k + H.s k * F.c) := fun k => by rw [Rat.add_comm]; exact ok.e.s k
 have hsumt : ∀ k, SB ((F.scale H.c).t k + H.t k * F.c) := fun k => by rw [Rat.add_comm]; exact ok.e.t k
 have hz1 : ∀ k : Par, SB ((fun _ : Par => (0 : Rat)) k + F.s k * H.c) := fun k => by show SB (0 + F.s k * H.c); rw [Rat.zero_add]; exact hc1.s k
 have hz2 : ∀ k : Par × Par, SB ((fun _ : Par × Par => (0 : Rat)) k + F.t k * H.c) := fun k => by show SB (0 + F.t k * H.c); rw [Rat.zero_add]; exact hc1.t k
 have hS0 : MapF parV KT u5 o1 (fun _ => 0) 0 := h1.mono l5
 have hP0 : MapF prV KO u5 o2 (fun _ => 0) 0 := h2.mono l5
 have le0 := le5
 refine G.mapRange v1 esv clv 55 124 (by kernel_rfl) (.inl (le5 _ _ f1)) ?_
 intro itA himA hiuA
 have i1A : g1 ≠ itA := fun e => by subst e; rw [himA] at hg5; cases hg5
 have i2A : g2 ≠ itA := fun e => by subst e; rw [himA] at hh5; cases hh5
 refine G.loop (ι := List MapEntry × List ((Par) × Value)) (fun _ => [(2, .p 0 0), (3, .p 1 0), (4, .p 2 0), (5, .p 1001 0), (28, .v (.pointer (some ⟨itA, 0, none⟩)))])
  (fun _ => [(0, ⟨128, [.v (.bool vb), .v (.slice va vn vc), .v (.bool vb'), .v (.slice va' vn' vc'), .v (.map (some v1)), .v (.map (some v2))]⟩), (1, ⟨128, [.v (.bool wb), .v (.slice wa wn wc), .v (.bool wb'), .v (.slice wa' wn' wc'), .v (.map (some w1)), .v (.map (some w2))]⟩), (2, ⟨128, [.v (.bool false), .v (.slice none 0 0), .v (.bool false), .v (.slice none 0 0), .v (.map none), .v (.map none)]⟩), (1001, ⟨128, [.v (.bool b2), .v (.slice a2 x2 c2), .v (.bool false), .v (.slice a2' x2' c2'), .v (.map (some g1)), .v (.map (some g2))]⟩)])
  (fun i u' m' => Seen parV esv lv i.1 i.2 ∧ m' itA = some (.mapIter (some v1) clv (seenOf i.1) clv) ∧ m' g2 = some o2 ∧ ∃ oo, m' g1 = some oo ∧ MapF parV KT u' oo (addL (fun _ => 0) F.s H.c (i.2.map (·.1))) (0 + i.2.length))
  (fun i => lv.length - i.2.length) ([], []) (by kernel_rfl) (fun _ => by kernel_rfl) ⟨by kernel_rfl, by kernel_rfl, by kernel_rfl⟩
  ⟨Seen.nil _ _, upd_same _ _ _, by rw [upd_ne _ _ i2A]; exact hh5, _, by rw [upd_ne _ _ i1A]; exact hg5, by
   have : addL (fun _ => 0) F.s H.c (([] : List ((Par) × Value)).map (·.1)) = (fun _ => 0) := by funext k; simp [addL]
   dsimp only; rw [this]; exact hS0⟩ ?_
 rintro JA ⟨D, LA⟩ hJA uA mA lA ⟨hS, hit, hothA, oA, hooA, hRA⟩
 simp only at hS hit hothA hooA hRA hJA
 have leA := le5.trans lA
 refine G.mapNextL keyPar.inj itA v1 esv clv lv D LA (by kernel_rfl) (by kernel_rfl) hit (.inl (leA _ _ f1)) hsv hkv hndv hS ?doneA ?nextA
 case nextA =>
  rintro ⟨k, xv⟩ e hp hkn he hek hev hS'
  simp only at hkn hek hev
  obtain ⟨hx, hko⟩ := hlv _ hp
  simp only at hx hko
  obtain ⟨yb, ya, yn, yc, ya', yn', yc', rfl, _⟩ := hx.opn
  refine G.mapEntry itA v1 esv clv D e (by kernel_rfl) (upd_same _ _ _) (.inl (leA _ _ f1)) hsv he ?_
  rw [hek, hev]
  refine G.call0 _ _ (by kernel_rfl) Tryz.call114 (refMul0 (hx.mono leA) (hwc.mono leA) (SB.ten (ok.a.s k)) (SB.ten ok.b.c)) ?_
  intro v4 u4 le4 r4
  obtain ⟨b4, a4, x4, c4, a4', x4', c4', rfl, _⟩ := r4.opn
  refine G.callG _ _ (by kernel_rfl) (by kernel_rfl) Tryz.call115 (g := g1) (o := oA) (by rw [upd_ne _ _ i1A]; exact hooA)
   (refSumM0 (g2 := some g2) (y1 := b2) (y2 := (a2, x2, c2)) (y3 := false) (y4 := (a2', x2', c2')) (hRA.mono le4) r4 (hc1.s k) (addL_sb (fun _ => SB.zero) hz1 k) (by
    have : addL (fun _ => 0) F.s H.c (LA.map (·.1)) k = (fun _ => 0) k := by unfold addL; rw [if_neg hkn]
    rw [this, Rat.add_comm]; exact hz1 k)) ?_
  intro v5 u5 o5 le5' r5'
  rw [addL_snoc _ _ _ hkn] at r5'
  refine G.back (by kernel_rfl) (hJA (D ++ [e], LA ++ [(k, _)]) _ _ _ ⟨by kernel_rfl, by kernel_rfl, by kernel_rfl⟩ ((lA.trans le4).trans le5')
   ⟨hS', by rw [upd_ne _ _ (Ne.symm i1A), upd_same], by rw [upd_ne _ _ (Ne.symm ne3), upd_ne _ _ i2A]; exact hothA, o5, upd_same _ _ _, by
    simpa [Nat.add_assoc] using r5'⟩ (by have := hS'.len; simp at this; dsimp only; simp; omega))
 case doneA =>
 intro hall
 rw [addL_all _ _ _ fun k hk => hzv k fun hm => hk (by
  obtain ⟨p, hp, rfl⟩ := List.mem_map.1 hm
  exact List.mem_map.2 ⟨p, hall p hp, rfl⟩)] at hRA
 have hLlA := hS.len
 have hSA := hRA.congr (f' := (F.scale H.c).s) (fun k => by show 0 + F.s k * H.c = F.s k * H.c; rw [Rat.zero_add])
 have hPA := hP0.mono lA
 clear hJA hS hit hall hRA
 refine G.mapRange w1 esw clw 55 124 (by kernel_rfl) (.inl (leA _ _ e1)) ?_
 intro itB himB hiuB
 have i1B : g1 ≠ itB := fun e => by subst e; rw [himB] at hooA; cases hooA
 have i2B : g2 ≠ itB := fun e => by subst e; rw [himB] at hothA; cases hothA
 refine G.loop (ι := List MapEntry × List ((Par) × Value)) (fun _ => [(2, .p 0 0), (3, .p 1 0), (4, .p 2 0), (5, .p 1001 0), (43, .v (.pointer (some ⟨itB, 0, none⟩)))])
  (fun _ => [(0, ⟨128, [.v (.bool vb), .v (.slice va vn vc), .v (.bool vb'), .v (.slice va' vn' vc'), .v (.map (some v1)), .v (.map (some v2))]⟩), (1, ⟨128, [.v (.bool wb), .v (.slice wa wn wc), .v (.bool wb'), .v (.slice wa' wn' wc'), .v (.map (some w1)), .v (.map (some w2))]⟩), (2, ⟨128, [.v (.bool false), .v (.slice none 0 0), .v (.bool false), .v (.slice none 0 0), .v (.map none), .v (.map none)]⟩), (1001, ⟨128, [.v (.bool b2), .v (.slice a2 x2 c2), .v (.bool false), .v (.slice a2' x2' c2'), .v (.map (some g1)), .v (.map (some g2))]⟩)])
  (fun i u' m' => Seen parV esw lw i.1 i.2 ∧ m' itB = some (.mapIter (some w1) clw (seenOf i.1) clw) ∧ m' g2 = some o2 ∧ ∃ oo, m' g1 = some oo ∧ MapF parV KT u' oo (addL (F.scale H.c).s H.s F.c (i.2.map (·.1))) (0 + LA.length + i.2.length))
  (fun i => lw.length - i.2.length) ([], []) (by kernel_rfl) (fun _ => by kernel_rfl) ⟨by kernel_rfl, by kernel_rfl, by kernel_rfl⟩
  ⟨Seen.nil _ _, upd_same _ _ _, by rw [upd_ne _ _ i2B]; exact hothA, _, by rw [upd_ne _ _ i1B]; exact hooA, by
   have : addL (F.scale H.c).s H.s F.c (([] : List ((Par) × Value)).map (·.1)) = (F.scale H.c).s := by funext k; simp [addL]
   dsimp only; rw [this]; exact hSA⟩ ?_
 rintro JB ⟨D, LB⟩ hJB uB mB lB ⟨hS, hit, hothB, oB, hooB, hRB⟩
 simp only at hS hit hothB hooB hRB hJB
 have leB := leA.trans lB
 refine G.mapNextL keyPar.inj itB w1 esw clw lw D LB (by kernel_rfl) (by kernel_rfl) hit (.inl (leB _ _ e1)) hsw hkw hndw hS ?doneB ?nextB
 case nextB =>
  rintro ⟨k, xv⟩ e hp hkn he hek hev hS'
  simp only at hkn hek hev
  obtain ⟨hx, hko⟩ := hlw _ hp
  simp only at hx hko
  obtain ⟨yb, ya, yn, yc, ya', yn', yc', rfl, _⟩ := hx.opn
  refine G.mapEntry itB w1 esw clw D e (by kernel_rfl) (upd_same _ _ _) (.inl (leB _ _ e1)) hsw he ?_
  rw [hek, hev]
  refine G.call0 _ _ (by kernel_rfl) Tryz.call114 (refMul0 (hx.mono leB) (hvc.mono leB) (SB.ten (ok.b.s k)) (SB.ten ok.a.c)) ?_
  intro v4 u4 le4 r4
  obtain ⟨b4, a4, x4, c4, a4', x4', c4', rfl, _⟩ := r4.opn
  refine G.callG _ _ (by kernel_rfl) (by kernel_rfl) Tryz.call115 (g := g1) (o := oB) (by rw [upd_ne _ _ i1B]; exact hooB)
   (refSumM0 (g2 := some g2) (y1 := b2) (y2 := (a2, x2, c2)) (y3 := false) (y4 := (a2', x2', c2')) (hRB.mono le4) r4 (hc2.s k) (addL_sb hc1.s hsum k) (by
    have : addL (F.scale H.c).s H.s F.c (LB.map (·.1)) k = (F.scale H.c).s k := by unfold addL; rw [if_neg hkn]
    rw [this, Rat.add_comm]; exact hsum k)) ?_
  intro v5 u5 o5 le5' r5'
  rw [addL_snoc _ _ _ hkn] at r5'
  refine G.back (by kernel_rfl) (hJB (D ++ [e], LB ++ [(k, _)]) _ _ _ ⟨by kernel_rfl, by kernel_rfl, by kernel_rfl⟩ ((lB.trans le4).trans le5')
   ⟨hS', by rw [upd_ne _ _ (Ne.symm i1B), upd_same], by rw [upd_ne _ _ (Ne.symm ne3), upd_ne _ _ i2B]; exact hothB, o5, upd_same _ _ _, by
    simpa [Nat.add_assoc] using r5'⟩ (by have := hS'.len; simp at this; dsimp only; simp; omega))
 case doneB =>
 intro hall
 rw [addL_all _ _ _ fun k hk => hzw k fun hm => hk (by
  obtain ⟨p, hp, rfl⟩ := List.mem_map.1 hm
  exact List.mem_map.2 ⟨p, hall p hp, rfl⟩)] at hRB
 have hLlB := hS.len
 have hSB := hRB.congr (f' := (F.mul H).s) (fun k => by show F.s k * H.c + H.s k * F.c = H.s k * F.c + F.s k * H.c; rw [Rat.add_comm])
 have hPB := hPA.mono lB
 clear hJB hS hit hall hRB
 refine G.mapRange v2 fsv dlv 182 124 (by kernel_rfl) (.inl (leB _ _ f2)) ?_
 intro itC himC hiuC
 have i1C : g1 ≠ itC := fun e => by subst e; rw [himC] at hooB; cases hooB
 have i2C : g2 ≠ itC := fun e => by subst e; rw [himC] at hothB; cases hothB
 refine G.loop (ι := List MapEntry × List ((Par × Par) × Value)) (fun _ => [(2, .p 0 0), (3, .p 1 0), (4, .p 2 0), (5, .p 1001 0), (58, .v (.pointer (some ⟨itC, 0, none⟩)))])
  (fun _ => [(0, ⟨128, [.v (.bool vb), .v (.slice va vn vc), .v (.bool vb'), .v (.slice va' vn' vc'), .v (.map (some v1)), .v (.map (some v2))]⟩), (1, ⟨128, [.v (.bool wb), .v (.slice wa wn wc), .v (.bool wb'), .v (.slice wa' wn' wc'), .v (.map (some w1)), .v (.map (some w2))]⟩), (2, ⟨128, [.v (.bool false), .v (.slice none 0 0), .v (.bool false), .v (.slice none 0 0), .v (.map none), .v (.map none)]⟩), (1001, ⟨128, [.v (.bool b2), .v (.slice a2 x2 c2), .v (.bool false), .v (.slice a2' x2' c2'), .v (.map (some g1)), .v (.map (some g2))]⟩)])
  (fun i u' m' => Seen prV fsv kv i.1 i.2 ∧ m' itC = some (.mapIter (some v2) dlv (seenOf i.1) dlv) ∧ m' g1 = some oB ∧ ∃ oo, m' g2 = some oo ∧ MapF prV KO u' oo (addL (fun _ => 0) F.t H.c (i.2.map (·.1))) (0 + i.2.length))
  (fun i => kv.length - i.2.length) ([], []) (by kernel_rfl) (fun _ => by kernel_rfl) ⟨by kernel_rfl, by kernel_rfl, by kernel_rfl⟩
  ⟨Seen.nil _ _, upd_same _ _ _, by rw [upd_ne _ _ i1C]; exact hooB, _, by rw [upd_ne _ _ i2C]; exact hothB, by
   have : addL (fun _ => 0) F.t H.c (([] : List ((Par × Par) × Value)).map (·.1)) = (fun _ => 0) := by funext k; simp [addL]
   dsimp only; rw [this]; exact hPB⟩ ?_
 rintro JC ⟨D, LC⟩ hJC uC mC lC ⟨hS, hit, hothC, oC, hooC, hRC⟩
 simp only at hS hit hothC hooC hRC hJC
 have leC := leB.trans lC
 refine G.mapNextL keyArr.inj itC v2 fsv dlv kv D LC (by kernel_rfl) (by kernel_rfl) hit (.inl (leC _ _ f2)) hsv2 hkv2 hndv2 hS ?doneC ?nextC
 case nextC =>
  rintro ⟨k, xv⟩ e hp hkn he hek hev hS'
  simp only at hkn hek hev
  obtain ⟨hx, hko⟩ := hlv2 _ hp
  simp only at hx hko
  obtain ⟨yb, ya, yn, yc, ya', yn', yc', rfl, _⟩ := hx.opn
  refine G.mapEntry itC v2 fsv dlv D e (by kernel_rfl) (upd_same _ _ _) (.inl (leC _ _ f2)) hsv2 he ?_
  rw [hek, hev]
  have hfix := hko.fix
  refine G.pub 13003 182 [.int .i64 k.1.1, .string (mkS k.1.2), .int .i64 k.2.1, .string (mkS k.2.2)] (by kernel_rfl) (by kernel_rfl) ?_
  intro bq hq1 hq2
  have q1 : g1 ≠ bq := fun e => by subst e; rw [upd_ne _ _ i1C, hothC] at hq2; cases hq2
  have q2 : g2 ≠ bq := fun e => by subst e; rw [upd_ne _ _ i2C, hooC] at hq2; cases hq2
  have q3 : itC ≠ bq := fun e => by subst e; rw [upd_same] at hq2; cases hq2
  obtain ⟨pe1, pe2⟩ := pr_el (m := (mC.upd itC (.mapIter (some v2) dlv (seenOf (D ++ [e])) dlv)).upd bq (.cells [Value.int .i64 k.1.1, .string (mkS k.1.2), .int .i64 k.2.1, .string (mkS k.2.2)].toArray 182 (0, 0))) (upd_same _ _ _)
  refine G.addrA 182 55 2 bq 0 0 2 (by kernel_rfl) (by kernel_rfl) (by kernel_rfl) (by kernel_rfl) (by omega) ?_
  refine G.loadM (some 2) bq (0 + 0 * 2) (.agg #[.int .i64 k.1.1, .string (mkS k.1.2)]) (by kernel_rfl) (by kernel_rfl) pe1 ?_
  refine G.addrA 182 55 2 bq 0 1 2 (by kernel_rfl) (by kernel_rfl) (by kernel_rfl) (by kernel_rfl) (by omega) ?_
  refine G.loadM (some 2) bq (0 + 1 * 2) (.agg #[.int .i64 k.2.1, .string (mkS k.2.2)]) (by kernel_rfl) (by kernel_rfl) pe2 ?_
  refine G.call0 _ _ (by kernel_rfl) Tryz.call114 (refMul0 (hx.mono leC) (hwc.mono leC) (SB.ten (ok.a.t k)) (SB.ten ok.b.c)) ?_
  intro v4 u4 le4 r4
  obtain ⟨b4, a4, x4, c4, a4', x4', c4', rfl, _⟩ := r4.opn
  refine G.callG _ _ (by kernel_rfl) (by kernel_rfl) Tryz.call116 (g := g2) (o := oC) (by rw [upd_ne _ _ q2, upd_ne _ _ i2C]; exact hooC)
   (refProdM0 (g1 := some g1) (y1 := b2) (y2 := (a2, x2, c2)) (y3 := false) (y4 := (a2', x2', c2')) (p := k.1) (r := k.2) (hRC.mono le4) r4 (hc1.t k) (by rw [hfix]; exact addL_sb (fun _ => SB.zero) hz2 k) (by
    have : addL (fun _ => 0) F.t H.c (LC.map (·.1)) k = (fun _ => 0) k := by unfold addL; rw [if_neg hkn]
    rw [hfix, this, Rat.add_comm]; exact hz2 k)) ?_
  intro v5 u5 o5 le5' r5'
  rw [hfix, addL_snoc _ _ _ hkn] at r5'
  refine G.back (by kernel_rfl) (hJC (D ++ [e], LC ++ [(k, _)]) _ _ _ ⟨by kernel_rfl, by kernel_rfl, by kernel_rfl⟩ ((lC.trans le4).trans le5')
   ⟨hS', by rw [upd_ne _ _ (Ne.symm i2C), upd_ne _ _ q3, upd_same], by rw [upd_ne _ _ ne3, upd_ne _ _ q1, upd_ne _ _ i1C]; exact hothC, o5, upd_same _ _ _, by
    simpa [Nat.add_assoc] using r5'⟩ (by have := hS'.len; simp at this; dsimp only; simp; omega))
 case doneC =>
 intro hall
 rw [addL_all _ _ _ fun k hk => hzv2 k fun hm => hk (by
  obtain ⟨p, hp, rfl⟩ := List.mem_map.1 hm
  exact List.mem_map.2 ⟨p, hall p hp, rfl⟩)] at hRC
 have hLlC := hS.len
 have hPC := hRC.congr (f' := (F.scale H.c).t) (fun k => by show 0 + F.t k * H.c = F.t k * H.c; rw [Rat.zero_add])
 have hSC := hSB.mono lC
 clear hJC hS hit hall hRC
 refine G.mapRange w2 fsw dlw 182 124 (by kernel_rfl) (.inl (leC _ _ e2)) ?_
 intro itD himD hiuD
 have i1D : g1 ≠ itD := fun e => by subst e; rw [himD] at hothC; cases hothC
 have i2D : g2 ≠ itD := fun e => by subst e; rw [himD] at hooC; cases hooC
 refine G.loop (ι := List MapEntry × List ((Par × Par) × Value)) (fun _ => [(2, .p 0 0), (3, .p 1 0), (4, .p 2 0), (5, .p 1001 0), (76, .v (.pointer (some ⟨itD, 0, none⟩)))])
  (fun _ => [(0, ⟨128, [.v (.bool vb), .v (.slice va vn vc), .v (.bool vb'), .v (.slice va' vn' vc'), .v (.map (some v1)), .v (.map (some v2))]⟩), (1, ⟨128, [.v (.bool wb), .v (.slice wa wn wc), .v (.bool wb'), .v (.slice wa' wn' wc'), .v (.map (some w1)), .v (.map (some w2))]⟩), (2, ⟨128, [.v (.bool false), .v (.slice none 0 0), .v (.bool false), .v (.slice none 0 0), .v (.map none), .v (.map none)]⟩), (1001, ⟨128, [.v (.bool b2), .v (.slice a2 x2 c2), .v (.bool false), .v (.slice a2' x2' c2'), .v (.map (some g1)), .v (.map (some g2))]⟩)])
  (fun i u' m' => Seen prV fsw kw i.1 i.2 ∧ m' itD = some (.mapIter (some w2) dlw (seenOf i.1) dlw) ∧ m' g1 = some oB ∧ ∃ oo, m' g2 = some oo ∧ MapF prV KO u' oo (addL (F.scale H.c).t H.t F.c (i.2.map (·.1))) (0 + LC.length + i.2.length))
  (fun i => kw.length - i.2.length) ([], []) (by kernel_rfl) (fun _ => by kernel_rfl) ⟨by kernel_rfl, by kernel_rfl, by kernel_rfl⟩
  ⟨Seen.nil _ _, upd_same _ _ _, by rw [upd_ne _ _ i1D]; exact hothC, _, by rw [upd_ne _ _ i2D]; exact hooC, by
   have : addL (F.scale H.c).t H.t F.c (([] : List ((Par × Par) × Value)).map (·.1)) = (F.scale H.c).t := by funext k; simp [addL]
   dsimp only; rw [this]; exact hPC⟩ ?_
 rintro JD ⟨D, LD⟩ hJD uD mD lD ⟨hS, hit, hothD, oD, hooD, hRD⟩
 simp only at hS hit hothD hooD hRD hJD
 have leD := leC.trans lD
 refine G.mapNextL keyArr.inj itD w2 fsw dlw kw D LD (by kernel_rfl) (by kernel_rfl) hit (.inl (leD _ _ e2)) hsw2 hkw2 hndw2 hS ?doneD ?nextD
 case nextD =>
  rintro ⟨k, xv⟩ e hp hkn he hek hev hS'
  simp only at hkn hek hev
  obtain ⟨hx, hko⟩ := hlw2 _ hp
  simp only at hx hko
  obtain ⟨yb, ya, yn, yc, ya', yn', yc', rfl, _⟩ := hx.opn
  refine G.mapEntry itD w2 fsw dlw D e (by kernel_rfl) (upd_same _ _ _) (.inl (leD _ _ e2)) hsw2 he ?_
  rw [hek, hev]
  have hfix := hko.fix
  refine G.pub 17003 182 [.int .i64 k.1.1, .string (mkS k.1.2), .int .i64 k.2.1, .string (mkS k.2.2)] (by kernel_rfl) (by kernel_rfl) ?_
  intro bq hq1 hq2
  have q1 : g1 ≠ bq := fun e => by subst e; rw [upd_ne _ _ i1D, hothD] at hq2; cases hq2
  have q2 : g2 ≠ bq := fun e => by subst e; rw [upd_ne _ _ i2D, hooD] at hq2; cases hq2
  have q3 : itD ≠ bq := fun e => by subst e; rw [upd_same] at hq2; cases hq2
  obtain ⟨pe1, pe2⟩ := pr_el (m := (mD.upd itD (.mapIter (some w2) dlw (seenOf (D ++ [e])) dlw)).upd bq (.cells [Value.int .i64 k.1.1, .string (mkS k.1.2), .int .i64 k.2.1, .string (mkS k.2.2)].toArray 182 (0, 0))) (upd_same _ _ _)
  refine G.addrA 182 55 2 bq 0 0 2 (by kernel_rfl) (by kernel_rfl) (by kernel_rfl) (by kernel_rfl) (by omega) ?_
  refine G.loadM (some 2) bq (0 + 0 * 2) (.agg #[.int .i64 k.1.1, .string (mkS k.1.2)]) (by kernel_rfl) (by kernel_rfl) pe1 ?_
  refine G.addrA 182 55 2 bq 0 1 2 (by kernel_rfl) (by kernel_rfl) (by kernel_rfl) (by kernel_rfl) (by omega) ?_
  refine G.loadM (some 2) bq (0 + 1 * 2) (.agg #[.int .i64 k.2.1, .string (mkS k.2.2)]) (by kernel_rfl) (by kernel_rfl) pe2 ?_
  refine G.call0 _ _ (by kernel_rfl) Tryz.call114 (refMul0 (hx.mono leD) (hvc.mono leD) (SB.ten (ok.b.t k)) (SB.ten ok.a.c)) ?_
  intro v4 u4 le4 r4
  obtain ⟨b4, a4, x4, c4, a4', x4', c4', rfl, _⟩ := r4.opn
  refine G.callG _ _ (by kernel_rfl) (by kernel_rfl) Tryz.call116 (g := g2) (o := oD) (by rw [upd_ne _ _ q2, upd_ne _ _ i2D]; exact hooD)
   (refProdM0 (g1 := some g1) (y1 := b2) (y2 := (a2, x2, c2)) (y3 := false) (y4 := (a2', x2', c2')) (p := k.1) (r := k.2) (hRD.mono le4) r4 (hc2.t k) (by rw [hfix]; exact addL_sb hc1.t hsumt k) (by
    have : addL (F.scale H.c).t H.t F.c (LD.map (·.1)) k = (F.scale H.c).t k := by unfold addL; rw [if_neg hkn]
    rw [hfix, this, Rat.add_comm]; exact hsumt k)) ?_
  intro v5 u5 o5 le5' r5'
  rw [hfix, addL_snoc _ _ _ hkn] at r5'
  refine G.back (by kernel_rfl) (hJD (D ++ [e], LD ++ [(k, _)]) _ _ _ ⟨by kernel_rfl, by kernel_rfl, by kernel_rfl⟩ ((lD.trans le4).trans le5')
   ⟨hS', by rw [upd_ne _ _ (Ne.symm i2D), upd_ne _ _ q3, upd_same], by rw [upd_ne _ _ ne3, upd_ne _ _ q1, upd_ne _ _ i1D]; exact hothD, o5, upd_same _ _ _, by
    simpa [Nat.add_assoc] using r5'⟩ (by have := hS'.len; simp at this; dsimp only; simp; omega))
 case doneD =>
 intro hall
 rw [addL_all _ _ _ fun k hk => hzw2 k fun hm => hk (by
  obtain ⟨p, hp, rfl⟩ := List.mem_map.1 hm
  exact List.mem_map.2 ⟨p, hall p hp, rfl⟩)] at hRD
 have hLlD := hS.len
 have hPD := hRD.congr (f' := ((H.scale F.c).add (F.scale H.c)).t) (fun k => by show F.t k * H.c + H.t k * F.c = H.t k * F.c + F.t k * H.c; rw [Rat.add_comm])
 have hSD := hSC.mono lD
 clear hJD hS hit hall hRD
 obtain ⟨base, hbase⟩ : ∃ base : Par × Par → Rat, base = ((H.scale F.c).add (F.scale H.c)).t := ⟨_, rfl⟩
 have hacc := ok.acc
 rw [← hbase] at hPD hacc
 have okp := ok.pr
 have okc := ok.con
 refine G.mapRange v1 esv clv 55 124 (by kernel_rfl) (.inl (leD _ _ f1)) ?_
 intro it him hiu
 have i1 : g1 ≠ it := fun e => by subst e; rw [him] at hothD; cases hothD
 have i2 : g2 ≠ it := fun e => by subst e; rw [him] at hooD; cases hooD
 refine G.loop (ι := List MapEntry × List (Par × Value)) (fun _ => [(2, .p 0 0), (3, .p 1 0), (4, .p 2 0), (5, .p 1001 0), (94, .v (.pointer (some ⟨it, 0, none⟩)))])
  (fun _ => [(0, ⟨128, [.v (.bool vb), .v (.slice va vn vc), .v (.bool vb'), .v (.slice va' vn' vc'), .v (.map (some v1)), .v (.map (some v2))]⟩), (1, ⟨128, [.v (.bool wb), .v (.slice wa wn wc), .v (.bool wb'), .v (.slice wa' wn' wc'), .v (.map (some w1)), .v (.map (some w2))]⟩), (2, ⟨128, [.v (.bool false), .v (.slice none 0 0), .v (.bool false), .v (.slice none 0 0), .v (.map none), .v (.map none)]⟩), (1001, ⟨128, [.v (.bool b2), .v (.slice a2 x2 c2), .v (.bool false), .v (.slice a2' x2' c2'), .v (.map (some g1)), .v (.map (some g2))]⟩)])
  (fun i u' m' => Seen parV esv lv i.1 i.2 ∧ m' it = some (.mapIter (some v1) clv (seenOf i.1) clv) ∧ m' g1 = some oB ∧ ∃ Ps : List (Par × Par), Ps.Nodup ∧ (∀ x : Par × Par, x ∈ Ps ↔ x.1 ∈ i.2.map (·.1) ∧ x.2 ∈ lw.map (·.1)) ∧ ∃ o2', m' g2 = some o2' ∧ MapF prV KO u' o2' (fun k => base k + crossL F H Ps k) (0 + LC.length + LD.length + i.2.length * lw.length))
  (fun i => lv.length - i.2.length) ([], []) (by kernel_rfl) (fun _ => by kernel_rfl) ⟨by kernel_rfl, by kernel_rfl, by kernel_rfl⟩
  ⟨Seen.nil _ _, upd_same _ _ _, by rw [upd_ne _ _ i1]; exact hothD, [], by simp, by simp, oD, by rw [upd_ne _ _ i2]; exact hooD, (hPD.congr fun k => by simp only [crossL]; grind).up (by simp)⟩ ?_
 rintro J ⟨D, L⟩ hJ u6 m6 l6 ⟨hS, hit, hm1g, Ps, hPn, hPm, o2', hg2, hR⟩
 simp only at hS hit hm1g hPm hg2 hR hJ
 have le6 := leD.trans l6
 refine G.mapNextL keyPar.inj it v1 esv clv lv D L (by kernel_rfl) (by kernel_rfl) hit (.inl (le6 _ _ f1)) hsv hkv hndv hS ?done1 ?next1
 case next1 =>
  rintro ⟨p, xv⟩ e hp hpn he hek hev hS'
  simp only at hpn hek hev
  have hx := (hlv _ hp).1
  simp only at hx
  obtain ⟨yb, ya, yn, yc, ya', yn', yc', rfl, _⟩ := hx.opn
  refine G.mapEntry it v1 esv clv D e (by kernel_rfl) (upd_same _ _ _) (.inl (le6 _ _ f1)) hsv he ?_
  rw [hek, hev]
  refine G.mapRange w1 esw clw 55 124 (by kernel_rfl) (.inl (le6 _ _ e1)) ?_
  intro it2 him2 hiu2
  have j1 : g1 ≠ it2 := fun e => by subst e; rw [upd_ne _ _ i1, hm1g] at him2; cases him2
  have j2 : g2 ≠ it2 := fun e => by subst e; rw [upd_ne _ _ i2, hg2] at him2; cases him2
  have k1 : it ≠ it2 := fun e => by subst e; rw [upd_same] at him2; cases him2
  refine G.loop (ι := List MapEntry × List (Par × Value)) (fun _ => [(2, .p 0 0), (3, .p 1 0), (4, .p 2 0), (5, .p 1001 0), (14, .p 21003 0), (15, .p 21004 0), (94, .v (.pointer (some ⟨it, 0, none⟩))), (102, .v (.pointer (some ⟨it2, 0, none⟩)))])
   (fun _ => [(0, ⟨128, [.v (.bool vb), .v (.slice va vn vc), .v (.bool vb'), .v (.slice va' vn' vc'), .v (.map (some v1)), .v (.map (some v2))]⟩), (1, ⟨128, [.v (.bool wb), .v (.slice wa wn wc), .v (.bool wb'), .v (.slice wa' wn' wc'), .v (.map (some w1)), .v (.map (some w2))]⟩), (2, ⟨128, [.v (.bool false), .v (.slice none 0 0), .v (.bool false), .v (.slice none 0 0), .v (.map none), .v (.map none)]⟩), (1001, ⟨128, [.v (.bool b2), .v (.slice a2 x2 c2), .v (.bool false), .v (.slice a2' x2' c2'), .v (.map (some g1)), .v (.map (some g2))]⟩), (21003, ⟨55, [.v (.int .i64 p.1), .v (.string (mkS p.2))]⟩), (21004, ⟨124, [.v (.bool yb), .v (.slice ya yn yc), .v (.bool false), .v (.slice ya' yn' yc')]⟩)])
   (fun i u' m' => Seen parV esw lw i.1 i.2 ∧ m' it2 = some (.mapIter (some w1) clw (seenOf i.1) clw) ∧ m' it = some (.mapIter (some v1) clv (seenOf (D ++ [e])) clv) ∧ m' g1 = some oB ∧ ∃ Qs : List (Par × Par), Qs.Nodup ∧ (∀ x : Par × Par, x ∈ Qs ↔ (x.1 ∈ L.map (·.1) ∧ x.2 ∈ lw.map (·.1)) ∨ (x.1 = p ∧ x.2 ∈ i.2.map (·.1))) ∧ ∃ oi, m' g2 = some oi ∧ MapF prV KO u' oi (fun k => base k + crossL F H Qs k) (0 + LC.length + LD.length + L.length * lw.length + i.2.length))
   (fun i => lw.length - i.2.length) ([], []) (by kernel_rfl) (fun _ => by kernel_rfl) ⟨by kernel_rfl, by kernel_rfl, by kernel_rfl⟩
   ⟨Seen.nil _ _, upd_same _ _ _, by rw [upd_ne _ _ k1, upd_same], by rw [upd_ne _ _ j1, upd_ne _ _ i1]; exact hm1g, Ps, hPn, by intro x; rw [hPm]; simp, o2', by rw [upd_ne _ _ j2, upd_ne _ _ i2]; exact hg2, hR⟩ ?_
  rintro J2 ⟨D2, L2⟩ iJ ui mi ile ⟨iS, iit2, iit, ig1, Qs, hQn, hQm, oi, ig2, iR⟩
  simp only at iS iit2 iit ig1 hQm ig2 iR iJ
  have lei := le6.trans ile
  refine G.mapNextL keyPar.inj it2 w1 esw clw lw D2 L2 (by kernel_rfl) (by kernel_rfl) iit2 (.inl (lei _ _ e1)) hsw hkw hndw iS ?done2 ?next2
  case next2 =>
   rintro ⟨k, yv⟩ e2 hk hkn he2 hek2 hev2 iS'
   simp only at hkn hek2 hev2
   have hy := (hlw _ hk).1
   simp only at hy
   obtain ⟨zb, za, zn, zc, za', zn', zc', rfl, _⟩ := hy.opn
   have hnew : (p, k) ∉ Qs := fun h => by
    rcases (hQm _).1 h with h | h
    ·exact hpn h.1
    ·exact hkn h.2
   have hQn' : (Qs ++ [(p, k)]).Nodup := by
    rw [List.nodup_append]
    exact ⟨hQn, by simp, fun a ha b hb e' => hnew (by simp at hb; rw [← hb, ← e']; exact ha)⟩
   have hQm' : ∀ x : Par × Par, x ∈ Qs ++ [(p, k)] ↔ (x.1 ∈ L.map (·.1) ∧ x.2 ∈ lw.map (·.1)) ∨ (x.1 = p ∧ x.2 ∈ (L2 ++ [(k, Value.agg #[.bool zb, .slice za zn zc, .bool false, .slice za' zn' zc'])]).map (·.1)) := fun x => by
    obtain ⟨x1, x2⟩ := x
    rw [List.mem_append, hQm]
    simp only [List.map_append, List.mem_append, List.map_cons, List.map_nil, List.mem_singleton, Prod.mk.injEq]
    constructor
    ·rintro ((h | ⟨h1, h2⟩) | ⟨h1, h2⟩)
     ·exact .inl h
     ·exact .inr ⟨h1, .inl h2⟩
     ·exact .inr ⟨h1, .inr h2⟩
    ·rintro (h | ⟨h1, h2 | h2⟩)
     ·exact .inl (.inl h)
     ·exact .inl (.inr ⟨h1, h2⟩)
     ·exact .inr ⟨h1, h2⟩
   refine G.mapEntry it2 w1 esw clw D2 e2 (by kernel_rfl) (upd_same _ _ _) (.inl (lei _ _ e1)) hsw he2 ?_
   rw [hek2, hev2]
   refine G.call0 _ _ (by kernel_rfl) Tryz.call114 (refMul0 (hx.mono lei) (hy.mono lei) (SB.ten (ok.a.s p)) (SB.ten (ok.b.s k))) ?_
   intro v9 u9 l9 r9
   obtain ⟨b9, a9, n9, c9, a9', n9', c9', rfl, _⟩ := r9.opn
   by_cases hpk : p = k
   ·have hcon : con F H (p, k) = F.s p * H.s k + F.s p * H.s k := by unfold con; rw [if_pos hpk]
    refine G.eqAgg 55 #[.int .i64 p.1, .string (mkS p.2)] #[.int .i64 k.1, .string (mkS k.2)] true (by kernel_rfl) (by kernel_rfl) (by kernel_rfl) (fun w => by rw [← decide_eq_true hpk]; exact keyPar.eq p k w) ?_
    refine G.call0 _ _ (by kernel_rfl) Tryz.call113 (refAdd0 r9 r9 (SB.ten (okp p k)) (SB.ten (okp p k))) ?_
    intro v10 u10 l10 r10
    obtain ⟨b10, a10, n10, c10, a10', n10', c10', rfl, _⟩ := r10.opn
    refine G.callG _ _ (by kernel_rfl) (by kernel_rfl) Tryz.call116 (g := g2) (o := oi) (by rw [upd_ne _ _ j2]; exact ig2)
     (refProdM0 (g1 := some g1) (y1 := b2) (y2 := (a2, x2, c2)) (y3 := false) (y4 := (a2', x2', c2')) (p := p) (r := k) (iR.mono (l9.trans l10)) r10 (by have := okc (p, k); rw [hcon] at this; exact this) (hacc Qs hQn _) (by
      have := hacc (Qs ++ [(p, k)]) hQn' (pairP p k)
      rw [cross_snoc, if_pos rfl, hcon] at this
      rw [show (F.s p * H.s k + F.s p * H.s k) + (base (pairP p k) + crossL F H Qs (pairP p k)) = base (pairP p k) + ((F.s p * H.s k + F.s p * H.s k) + crossL F H Qs (pairP p k)) by grind]; exact this)) ?_
    intro v8 u8 o8 l8 r8
    refine G.back (by kernel_rfl) (iJ (D2 ++ [e2], L2 ++ [(k, _)]) _ _ _ ⟨by kernel_rfl, by kernel_rfl, by kernel_rfl⟩ ((ile.trans (l9.trans l10)).trans l8)
     ⟨iS', by rw [upd_ne _ _ (Ne.symm j2), upd_same], by rw [upd_ne _ _ (Ne.symm i2), upd_ne _ _ k1]; exact iit, by rw [upd_ne _ _ ne3, upd_ne _ _ j1]; exact ig1, Qs ++ [(p, k)], hQn', hQm', o8, upd_same _ _ _, ?_⟩ (by have := iS'.len; simp at this; dsimp only; simp; omega))
    refine (r8.congr fun j => ?_).up (by simp [Nat.add_assoc])
    rw [cross_snoc, hcon]
    unfold setF
    by_cases e : j = pairP p k
    ·rw [if_pos e, if_pos e, e]; grind
    ·rw [if_neg e, if_neg e]
   ·have hcon : con F H (p, k) = F.s p * H.s k := by unfold con; rw [if_neg hpk]
    refine G.eqAgg 55 #[.int .i64 p.1, .string (mkS p.2)] #[.int .i64 k.1, .string (mkS k.2)] false (by kernel_rfl) (by kernel_rfl) (by kernel_rfl) (fun w => by rw [← decide_eq_false hpk]; exact keyPar.eq p k w) ?_
    refine G.callG _ _ (by kernel_rfl) (by kernel_rfl) Tryz.call116 (g := g2) (o := oi) (by rw [upd_ne _ _ j2]; exact ig2)
     (refProdM0 (g1 := some g1) (y1 := b2) (y2 := (a2, x2, c2)) (y3 := false) (y4 := (a2', x2', c2')) (p := p) (r := k) (iR.mono (l9)) r9 (by have := okc (p, k); rw [hcon] at this; exact this) (hacc Qs hQn _) (by
      have := hacc (Qs ++ [(p, k)]) hQn' (pairP p k)
      rw [cross_snoc, if_pos rfl, hcon] at this
      rw [show (F.s p * H.s k) + (base (pairP p k) + crossL F H Qs (pairP p k)) = base (pairP p k) + ((F.s p * H.s k) + crossL F H Qs (pairP p k)) by grind]; exact this)) ?_
    intro v8 u8 o8 l8 r8
    refine G.back (by kernel_rfl) (iJ (D2 ++ [e2], L2 ++ [(k, _)]) _ _ _ ⟨by kernel_rfl, by kernel_rfl, by kernel_rfl⟩ ((ile.trans (l9)).trans l8)
     ⟨iS', by rw [upd_ne _ _ (Ne.symm j2), upd_same], by rw [upd_ne _ _ (Ne.symm i2), upd_ne _ _ k1]; exact iit, by rw [upd_ne _ _ ne3, upd_ne _ _ j1]; exact ig1, Qs ++ [(p, k)], hQn', hQm', o8, upd_same _ _ _, ?_⟩ (by have := iS'.len; simp at this; dsimp only; simp; omega))
    refine (r8.congr fun j => ?_).up (by simp [Nat.add_assoc])
    rw [cross_snoc, hcon]
    unfold setF
    by_cases e : j = pairP p k
    ·rw [if_pos e, if_pos e, e]; grind
    ·rw [if_neg e, if_neg e]
  case done2 =>
  intro hall2
  refine G.back (by kernel_rfl) (hJ (D ++ [e], L ++ [(p, _)]) _ _ _ ⟨by kernel_rfl, by kernel_rfl, by kernel_rfl⟩ (l6.trans ile) ⟨hS', iit, ig1, Qs, hQn, fun x => ?_, oi, ig2, iR.up ?_⟩ (by have := hS'.len; simp at this; dsimp only; simp; omega))
  ·rw [hQm]
   simp only [List.map_append, List.mem_append, List.map_cons, List.map_nil, List.mem_singleton]
   constructor
   ·rintro (h | ⟨h1, h2⟩)
    ·exact ⟨.inl h.1, h.2⟩
    ·obtain ⟨y, hy, e'⟩ := List.mem_map.1 h2
     exact ⟨.inr h1, List.mem_map.2 ⟨y, iS.sub y hy, e'⟩⟩
   ·rintro ⟨h1 | h1, h2⟩
    ·exact .inl ⟨h1, h2⟩
    ·obtain ⟨y, hy, e'⟩ := List.mem_map.1 h2
     exact .inr ⟨h1, List.mem_map.2 ⟨y, hall2 y hy, e'⟩⟩
  ·have := iS.len
   simp only [List.length_append, List.length_cons, List.length_nil, Nat.add_mul]
   omega
 case done1 =>
 intro hall
 refine G.drop ((PH.mt.upd g1 oB).upd g2 o2') (by kernel_rfl) (fun g o hg => ?_) ?_
 ·by_cases e : g = g2
  ·subst e; rw [upd_same] at hg; cases hg; exact hg2
  ·rw [upd_ne _ _ e] at hg
   by_cases e : g = g1
   ·subst e; rw [upd_same] at hg; cases hg; exact hm1g
   ·rw [upd_ne _ _ e] at hg; cases hg
 refine G.ret (.agg #[.bool b2, .slice a2 x2 c2, .bool false, .slice a2' x2' c2', .map (some g1), .map (some g2)]) (by kernel_rfl) ⟨b2, a2, x2, c2, false, a2', x2', c2', g1, g2, oB, o2', rfl, r5.mono ((((lA.trans lB).trans lC).trans lD).trans l6), ne3, rfl, (hSD.mono l6).up (by omega), (hR.congr fun k => ?_).up ?_⟩
 ·rw [cross_all F H hPn (fun p q h1 h2 => (hPm _).2 ⟨?_, ?_⟩) k, hbase]
  ·rfl
  ·have : p ∈ lv.map (·.1) := Classical.byContradiction fun h => h1 (hzv p h)
   obtain ⟨y, hy, e'⟩ := List.mem_map.1 this
   exact List.mem_map.2 ⟨y, hall y hy, e'⟩
  ·exact Classical.byContradiction fun h => h2 (hzw q h)
 ·have h1 := hS.len
  have h2 : L.length * lw.length ≤ N * M := Nat.mul_le_mul (by omega) hnw
  omega
end Go.Proofs.YtpdboaedoimahaaGreatDoor
end
section
set_option linter.unusedSectionVars false
set_option linter.unusedVariables false
namespace Go.Proofs.YtpdboaedoimahaaGreatDoor
open Go.RowKit Go.MapKept
theorem ins_sort {κ : Type} {c : κ → κ → Int} (hc : Ord c) {S : List (κ × Rat)} {k : κ} {q : Rat} {n : Nat} (hS : SortK c (S.map (·.1))) (hk : k ∉ S.map (·.1))
  (h1 : ∀ j x, j < n → S[j]? = some x → c x.1 k < 0) (h2 : ∀ x, S[n]? = some x → ¬ c x.1 k < 0) : SortK c ((S.take n ++ [(k, q)] ++ S.drop n).map (·.1)) := by
 have hS' : SortK c ((S.take n).map (·.1) ++ (S.drop n).map (·.1)) := by rw [← List.map_append, List.take_append_drop]; exact hS
 unfold SortK at hS' ⊢
 rw [List.pairwise_append] at hS'
 obtain ⟨p1, p2, p3⟩ := hS'
 have hA : ∀ a ∈ (S.take n).map (·.1), c a k < 0 := fun a ha => by
  obtain ⟨x, hx, rfl⟩ := List.mem_map.1 ha
  obtain ⟨j, hj, rfl⟩ := List.getElem_of_mem hx
  rw [List.length_take] at hj
  refine h1 j _ (by omega) ?_
  rw [List.getElem_take, List.getElem?_eq_getElem (by omega)]
 have hB : ∀ b ∈ (S.drop n).map (·.1), c k b < 0 := by
  cases hd : S.drop n with
  | nil => intro b hb; simp at hb
  | cons x B =>
   rw [hd, List.map_cons, List.pairwise_cons] at p2
   have hx : S[n]? = some x := by
    have := congrArg (fun l => l[0]?) hd
    simpa using this
   have hne : x.1 ≠ k := fun e => hk (List.mem_map.2 ⟨x, List.mem_of_getElem? hx, e⟩)
   have h3 := h2 x hx
   have h0 : c k x.1 < 0 := by
    have hs := hc.sym k x.1
    have hz : c x.1 k ≠ 0 := fun e => hne (hc.eq _ _ e)
    rw [hs]; omega
   intro b hb
   rw [List.map_cons, List.mem_cons] at hb
   rcases hb with rfl | hb
   ·exact h0
   ·exact hc.trans _ _ _ h0 (p2.1 b hb)
 rw [List.map_append, List.map_append, List.pairwise_append, List.pairwise_append]
 refine ⟨⟨p1, by simp, fun a ha b hb => ?_⟩, p2, fun a ha b hb => ?_⟩
 ·simp at hb; subst hb; exact hA a ha
 ·rcases List.mem_append.1 ha with ha | ha
  ·exact p3 a ha b hb
  ·simp at ha; subst ha; exact hB b hb
theorem ins_mem {α : Type} {S : List α} {x y : α} {n : Nat} : y ∈ S.take n ++ [x] ++ S.drop n ↔ y ∈ S ∨ y = x := by
 have h : y ∈ S ↔ y ∈ S.take n ∨ y ∈ S.drop n := by rw [← List.mem_append, List.take_append_drop]
 rw [h]
 simp only [List.mem_append, List.mem_singleton]
 constructor
 ·rintro ((a | a) | a)
  ·exact .inl (.inl a)
  ·exact .inr a
  ·exact .inl (.inr a)
 ·rintro ((a | a) | a)
  ·exact .inl (.inl a)
  ·exact .inr a
  ·exact .inl (.inr a)
structure InsK {κ : Type} (c : κ → κ → Int) (f : κ → Rat) (L : List κ) (S : List (κ × Rat)) : Prop where
 srt : SortK c (S.map (·.1))
 val : ∀ p ∈ S, p.2 = f p.1 ∧ p.2 ≠ 0
 mem : ∀ k, k ∈ S.map (·.1) ↔ k ∈ L ∧ f k ≠ 0
theorem InsK.nil {κ : Type} {c : κ → κ → Int} {f : κ → Rat} : InsK c f [] [] := ⟨List.Pairwise.nil, fun p hp => by simp at hp, fun k => by simp⟩
theorem InsK.skip {κ : Type} {c : κ → κ → Int} {f : κ → Rat} {L : List κ} {S : List (κ × Rat)} {k : κ} (h : InsK c f L S) (h0 : f k = 0) : InsK c f (L ++ [k]) S := ⟨h.srt, h.val, fun j => by
 rw [h.mem, List.mem_append, List.mem_singleton]
 constructor
 ·rintro ⟨a, b⟩; exact ⟨.inl a, b⟩
 ·rintro ⟨a | rfl, b⟩
  ·exact ⟨a, b⟩
  ·exact absurd h0 b⟩
theorem InsK.put {κ : Type} {c : κ → κ → Int} (hc : Ord c) {f : κ → Rat} {L : List κ} {S : List (κ × Rat)} {k : κ} {n : Nat} (h : InsK c f L S) (h0 : f k ≠ 0) (hk : k ∉ L)
  (h1 : ∀ j x, j < n → S[j]? = some x → c x.1 k < 0) (h2 : ∀ x, S[n]? = some x → ¬ c x.1 k < 0) : InsK c f (L ++ [k]) (S.take n ++ [(k, f k)] ++ S.drop n) :=
 ⟨ins_sort hc h.srt (fun e => hk ((h.mem k).1 e).1) h1 h2, fun p hp => by
  rcases ins_mem.1 hp with e | rfl
  ·exact h.val p e
  ·exact ⟨rfl, h0⟩, fun j => by
  have := h.mem j
  constructor
  ·intro hj
   obtain ⟨p, hp, rfl⟩ := List.mem_map.1 hj
   rcases ins_mem.1 hp with e | rfl
   ·obtain ⟨a, b⟩ := this.1 (List.mem_map.2 ⟨p, e, rfl⟩)
    exact ⟨List.mem_append_left _ a, b⟩
   ·exact ⟨by simp, h0⟩
  ·rintro ⟨a, b⟩
   rcases List.mem_append.1 a with e | e
   ·obtain ⟨p, hp, e2⟩ := List.mem_map.1 (this.2 ⟨e, b⟩)
    exact List.mem_map.2 ⟨p, ins_mem.2 (.inl hp), e2⟩
   ·rw [List.mem_singleton] at e
    exact List.mem_map.2 ⟨(k, f k), ins_mem.2 (.inr rfl), e.symm⟩⟩
theorem InsK.can {κ : Type} {c : κ → κ → Int} {f : κ → Rat} {L : List κ} {S : List (κ × Rat)} (h : InsK c f L S) (hL : ∀ k, k ∉ L → f k = 0) : Can c f S := ⟨h.srt, h.val, fun k hk => by
 rcases Classical.em (k ∈ L) with e | e
 ·exact Classical.byContradiction fun hn => hk ((h.mem k).2 ⟨e, hn⟩)
 ·exact hL k e⟩
theorem cmpQ_lt {p q : Par × Par} (h : cmpP p.1 q.1 < 0) : cmpQ p q < 0 := by unfold cmpQ; rw [if_pos (by omega)]; exact h
theorem cmpQ_gt {p q : Par × Par} (h : ¬ cmpP p.1 q.1 < 0) (h' : p.1 ≠ q.1) : ¬ cmpQ p q < 0 := by
 have hz : cmpP p.1 q.1 ≠ 0 := fun e => h' (ordP.eq _ _ e)
 unfold cmpQ; rw [if_pos hz]; exact h
theorem cmpQ_eq {p q : Par × Par} (h : p.1 = q.1) : cmpQ p q = cmpP p.2 q.2 := by unfold cmpQ; rw [h, ordP.refl, if_neg (by simp)]
set_option maxHeartbeats 1000000 in
theorem refBefore0 {u : PH} (x y : (Par × Par) × Rat) (r : Bool) (h : decide (cmpQ x.1 y.1 < 0) = r) : Fn0 Tryz.prog 110 [prtV x, prtV y] u fun v _ => v = .bool r := by
 obtain ⟨⟨⟨a1, a2⟩, b1, b2⟩, q⟩ := x
 obtain ⟨⟨⟨c1, c2⟩, d1, d2⟩, q'⟩ := y
 refine Fn0.of Tryz.func110 (by kernel_rfl) (by kernel_rfl) ?_
 by_cases h1 : cmpP (a1, a2) (c1, c2) < 0
 ·rw [decide_eq_true (cmpQ_lt h1)] at h
  subst h
  refine G.call0 _ _ (by kernel_rfl) Tryz.call109 (refLess0 (a1, a2) (c1, c2) true (decide_eq_true h1)) ?_
  rintro v1 u1 l1 rfl
  exact G.ret (.bool true) (by kernel_rfl) ⟨rfl, rfl⟩
 ·refine G.call0 _ _ (by kernel_rfl) Tryz.call109 (refLess0 (a1, a2) (c1, c2) false (decide_eq_false h1)) ?_
  rintro v1 u1 l1 rfl
  by_cases h2 : ((a1, a2) : Par) = (c1, c2)
  ·refine G.eqAgg 55 #[.int .i64 a1, .string (mkS a2)] #[.int .i64 c1, .string (mkS c2)] true (by kernel_rfl) (by kernel_rfl) (by kernel_rfl) (fun w => by rw [← decide_eq_true h2]; exact keyPar.eq (a1, a2) (c1, c2) w) ?_
   rw [cmpQ_eq h2] at h
   refine G.call0 _ _ (by kernel_rfl) Tryz.call109 (refLess0 (b1, b2) (d1, d2) r h) ?_
   rintro v2 u2 l2 rfl
   cases r with
   | true => exact G.ret (.bool true) (by kernel_rfl) ⟨rfl, rfl⟩
   | false => exact G.ret (.bool false) (by kernel_rfl) ⟨rfl, rfl⟩
  ·rw [decide_eq_false (cmpQ_gt h1 h2)] at h
   subst h
   refine G.eqAgg 55 #[.int .i64 a1, .string (mkS a2)] #[.int .i64 c1, .string (mkS c2)] false (by kernel_rfl) (by kernel_rfl) (by kernel_rfl) (fun w => by rw [← decide_eq_false h2]; exact keyPar.eq (a1, a2) (c1, c2) w) ?_
   exact G.ret (.bool false) (by kernel_rfl) ⟨rfl, rfl⟩
section
variable {P : Program} [Mixed P] {fn : Func} {Post : Spec} {st : List KI × S} {u m : PH}
theorem G.sliceFromG (a : Option Addr) (n c k sz : Nat) (h : stopV P (adv P st) = .slice (some sz) (.slice a n c) (some (.int .i64 (k : Int))) none none) (hk : k ≤ n) (hn : n ≤ c)
  (g : G P fn Post (nx (adv P st) (.slice (if c = k then a else a.map (·.add (k * sz))) (n - k) (c - k))) u m) : G P fn Post st u m := by
 refine G.ask h (by simp) (fun env o hview w hp => ?_) g
 obtain ⟨t, X, L, H, M, e1, e2, e3, e4, e5, hsz⟩ := view_slice hview
 obtain ⟨dst, opp, type, pos, after, guard⟩ := o
 simp only at e1; subst e1
 unfold elemSz at hsz
 split at hsz
 ·rename_i e hu
  have h1 : (0 : Int) ≤ k ∧ (k : Int) ≤ n := by omega
  simp only [execOp, e2, e3, e4, e5]
  simp only [Instr.sliceAt, Sem.run_bind, run_underlying hu, Result.andThen_ok, Instr.slice, Instr.sliceBounds, Instr.sliceBound, asIntOf, Sem.run_pure, if_true, Option.isSome, Sem.run_ite, run_sizeOf' hsz, h1, and_self, Int.toNat_natCast]
 ·cases hsz
end
end Go.Proofs.YtpdboaedoimahaaGreatDoor
end
