/- Joined out of parts of one proof by a program: contracts of the functions that the statement reaches, and the plain facts behind them. -/
import Derived.Test.YtpdboaedoimahaaGreatDoorKB09
set_option linter.unusedVariables false
set_option linter.unusedSimpArgs false
set_option linter.unusedSectionVars false
section
set_option linter.unusedSectionVars false
set_option linter.unusedVariables false
namespace Go.Proofs.YtpdboaedoimahaaGreatDoor
open Go.RowKit Go.MapKept
theorem ElP.sub {u : PH} {b off : Nat} {e x : Value} {k : Nat} (h : ElP u b off e) (hx : ∀ i y, x.cells[i]? = some y → e.cells[k + i]? = some y) : ElP u b (off + k) x := fun i y hy => by
  obtain ⟨cs, t, fr, h1, h2⟩ := h (k + i) y (hx i y hy)
  exact ⟨cs, t, fr, h1, by rw [Nat.add_assoc]; exact h2⟩
set_option maxHeartbeats 4000000 in
theorem entries1 {u m : PH} {l b1 b2 : Nat} {v tv : Value} {T : List (List UInt8 × Nat)} {R : List SRel} {F : List Feat} {lab : Int} {ss : List (List UInt8)} (h : TupP u v tv T R F lab ss) (hb1 : ElP u b1 0 v) (hb2 : ElP u b2 0 tv) (J : List (Par × Rat) → PH → PH → Prop)
    (hJu : ∀ L u' u'' m', PH.le u' u'' → J L u' m' → J L u'' m')
    (hY : ∀ (i : Nat) (x : Par × Rat) u' m', i < F.length → PH.le u u' → J (vecL F ss i) u' m' → x ∈ vecL F ss F.length → x.1.1 = (i : Int) → YieldC Tryz.prog l [parV x.1, .string (mkS (ratT x.2))] u' m' fun r u'' m'' => r = .bool true ∧ J (vecL F ss i ++ [x]) u'' m'')
    (h0 : J [] u m) : Contract Tryz.prog 85 [.func (.yield l) #[] #[], .pointer (some ⟨b1, 0, none⟩), .pointer (some ⟨b2, 0, none⟩)] u m fun _ u' m' => J (vecL F ss F.length) u' m' := by
  obtain ⟨⟨xa, xc, xb, xd, xe, xf, rfl, hTL, hRL, hFL⟩, ok, hS, hT⟩ := h
  obtain ⟨ya, yc, rfl⟩ := hS.opn
  rw [List.length_map] at hS hb2
  have hf8 := ok.f2
  have hfeat := ok.feat
  have e2 : ElP u b1 (0 + 2) (.slice xe F.length xf) := hb1.sub (k := 2) fun i y hy => by
    match i, hy with
    | 0, hy => simpa [Value.cells] using hy
    | i + 1, hy => simp [Value.cells] at hy
  refine Contract.of Tryz.func85 (by kernel_rfl) (by kernel_rfl) ?_
  refine G.fieldA 30 b1 0 2 2 (by kernel_rfl) (by kernel_rfl) ?_
  refine G.loadU none b1 (0 + 2) (.slice xe F.length xf) (by kernel_rfl) (by kernel_rfl) e2 ?_
  refine G.loop (ι := Nat) (fun i => [(0, .v (.func (.yield l) #[] #[])), (2, .v (.pointer (some ⟨b2, 0, none⟩))), (9, .v (.slice xe F.length xf)), (10, .v (.int .i64 (F.length : Int))), (11, .v (.int .i64 (i : Int)))]) (fun _ => [])
    (fun i u' m' => i ≤ F.length ∧ J (vecL F ss i) u' m') (fun i => F.length - i) 0 (by kernel_rfl) (fun _ => by kernel_rfl) ⟨by kernel_rfl, by kernel_rfl, by kernel_rfl⟩ ⟨by omega, h0⟩ ?_
  rintro Jl i hJ u1 m1 l1 ⟨hi, hJi⟩
  by_cases hil : i < F.length
  · refine G.lssT (i : Int) (F.length : Int) (by kernel_rfl) (by omega) ?_
    have hFi : F[i]? = some F[i] := List.getElem?_eq_getElem hil
    have hfm := List.getElem_mem hil
    have hfl := feat_at hfeat hT hfm
    have hsucc := vecL_succ (ss := ss) hFi
    have hnt := fun h2 h0 => num_text hfeat hT hfm h2 h0
    have hin : ∀ x, vecO ss i F[i] = some x → x ∈ vecL F ss F.length := fun x hx => mem_vecL.2 ⟨i, F[i], hil, hFi, hx⟩
    obtain ⟨fb, fo, rfl, ef⟩ := ListP.at' (hFL.mono l1) (j := i) (e := featV F[i]) (by simp [hFi])
    have step := fun (x : Par × Rat) (hx : vecO ss i F[i] = some x) (u' m' : PH) (hl : PH.le u1 u') (hj : J (vecL F ss i) u' m') => hY i x u' m' hil (l1.trans hl) hj (hin x hx) (vecO_key hx)
    have keep : vecO ss i F[i] = none → vecL F ss (i + 1) = vecL F ss i := fun e => by rw [hsucc, e]; simp
    have gain : ∀ x, vecO ss i F[i] = some x → vecL F ss (i + 1) = vecL F ss i ++ [x] := fun x e => by rw [hsucc, e]; simp
    clear hsucc hin
    generalize F[i] = f at hFi hfm hfl hnt ef step keep gain
    obtain ⟨f1, f2, f3⟩ := f
    simp only at hfl hnt
    refine G.addr fb fo F.length xf i 3 (by kernel_rfl) hil ?_
    refine G.loadU (some 3) fb (fo + i * 3) (.agg #[.int .i64 (f1 : Int), .int .i64 (f2 : Int), .int .i64 (f3 : Int)]) (by kernel_rfl) (by kernel_rfl) ef ?_
    refine G.loadU none b2 0 (.slice ya ss.length yc) (by kernel_rfl) (by kernel_rfl) (hb2.mono l1) ?_
    obtain ⟨b, off, rfl, e⟩ := text_at (hS.mono l1) hfl
    refine G.addr b off ss.length yc f1 1 (by kernel_rfl) hfl ?_
    refine G.loadU none b (off + f1 * 1) (.string (mkS (ss.getD f1 []))) (by kernel_rfl) (by kernel_rfl) e ?_
    by_cases hk2 : f2 = 2
    · subst hk2
      have hv : vecO ss i (f1, 2, f3) = some (((i : Int), ss.getD f1 []), 1) := by unfold vecO; rw [if_pos rfl]
      refine G.eqlT ((2 : Nat) : Int) 2 (by kernel_rfl) (by omega) ?_
      refine G.loadU none b2 0 (.slice (some ⟨b, off, none⟩) ss.length yc) (by kernel_rfl) (by kernel_rfl) (hb2.mono l1) ?_
      refine G.addr b off ss.length yc f1 1 (by kernel_rfl) hfl ?_
      refine G.loadU none b (off + f1 * 1) (.string (mkS (ss.getD f1 []))) (by kernel_rfl) (by kernel_rfl) e ?_
      refine G.yreg [0, 1, 2, 3, 4, 5, 6, 7, 8, 9] 10 [11, 12] (by kernel_rfl) ?_
      intro Jy hsk hyi
      refine G.neST [49] [] (by kernel_rfl) (by simp) ?_
      refine G.neST [49] [48] (by kernel_rfl) (by simp) ?_
      have hy := step _ hv u1 m1 (PH.le_refl _) hJi
      rw [ratT_one] at hy
      refine G.back (by kernel_rfl) (hyi _ _ _ l _ _ (by kernel_rfl) hy ?_)
      rintro v2 u2 m2 l2 ⟨rfl, hJ2⟩
      rw [← gain _ hv] at hJ2
      refine G.add (i : Int) 1 ((i + 1 : Nat) : Int) (by kernel_rfl) (by omega) (by omega) (by omega) ?_
      exact G.back (by kernel_rfl) (hJ (i + 1) _ _ _ ⟨by kernel_rfl, by kernel_rfl, by kernel_rfl⟩ (l1.trans l2) ⟨by omega, hJ2⟩ (by omega))
    · refine G.eqlF (f2 : Int) 2 (by kernel_rfl) (by omega) ?_
      have hvd : vecO ss i (f1, f2, f3) = if ss.getD f1 [] = [] ∨ ss.getD f1 [] = [48] then none else some (((i : Int), []), numT (ss.getD f1 [])) := by unfold vecO; rw [if_neg hk2]
      have hnt := hnt hk2
      generalize ss.getD f1 [] = w at hvd hnt e
      by_cases hw0 : w = []
      · subst hw0
        rw [if_pos (.inl rfl)] at hvd
        refine G.yreg [0, 1, 2, 3, 4, 5, 6, 7, 8, 9] 10 [11, 12] (by kernel_rfl) ?_
        intro Jy hsk hyi
        refine G.neSF [] [] (by kernel_rfl) rfl ?_
        refine G.back (by kernel_rfl) (hsk _ _ _ (by kernel_rfl) ?_)
        rw [← keep hvd] at hJi
        refine G.add (i : Int) 1 ((i + 1 : Nat) : Int) (by kernel_rfl) (by omega) (by omega) (by omega) ?_
        exact G.back (by kernel_rfl) (hJ (i + 1) _ _ _ ⟨by kernel_rfl, by kernel_rfl, by kernel_rfl⟩ l1 ⟨by omega, hJi⟩ (by omega))
      · by_cases hw1 : w = [48]
        · subst hw1
          rw [if_pos (.inr rfl)] at hvd
          refine G.yreg [0, 1, 2, 3, 4, 5, 6, 7, 8, 9] 10 [11, 12] (by kernel_rfl) ?_
          intro Jy hsk hyi
          refine G.neST [48] [] (by kernel_rfl) (by simp) ?_
          refine G.neSF [48] [48] (by kernel_rfl) rfl ?_
          refine G.back (by kernel_rfl) (hsk _ _ _ (by kernel_rfl) ?_)
          rw [← keep hvd] at hJi
          refine G.add (i : Int) 1 ((i + 1 : Nat) : Int) (by kernel_rfl) (by omega) (by omega) (by omega) ?_
          exact G.back (by kernel_rfl) (hJ (i + 1) _ _ _ ⟨by kernel_rfl, by kernel_rfl, by kernel_rfl⟩ l1 ⟨by omega, hJi⟩ (by omega))
        · rw [if_neg (fun e => e.elim hw0 hw1)] at hvd
          refine G.yreg [0, 1, 2, 3, 4, 5, 6, 7, 8, 9] 10 [11, 12] (by kernel_rfl) ?_
          intro Jy hsk hyi
          refine G.neST w [] (by kernel_rfl) hw0 ?_
          refine G.neST w [48] (by kernel_rfl) hw1 ?_
          have hy := step _ hvd u1 m1 (PH.le_refl _) hJi
          rw [(hnt hw0).2] at hy
          refine G.back (by kernel_rfl) (hyi _ _ _ l _ _ (by kernel_rfl) hy ?_)
          rintro v2 u2 m2 l2 ⟨rfl, hJ2⟩
          rw [← gain _ hvd] at hJ2
          refine G.add (i : Int) 1 ((i + 1 : Nat) : Int) (by kernel_rfl) (by omega) (by omega) (by omega) ?_
          exact G.back (by kernel_rfl) (hJ (i + 1) _ _ _ ⟨by kernel_rfl, by kernel_rfl, by kernel_rfl⟩ (l1.trans l2) ⟨by omega, hJ2⟩ (by omega))
  · obtain rfl : i = F.length := by omega
    refine G.lssF (F.length : Int) (F.length : Int) (by kernel_rfl) (by omega) ?_
    exact G.ret (.tuple #[]) (by kernel_rfl) hJi
end Go.Proofs.YtpdboaedoimahaaGreatDoor
end
section
set_option linter.unusedSectionVars false
set_option linter.unusedVariables false
namespace Go.Proofs.YtpdboaedoimahaaGreatDoor
open Go.RowKit Go.MapKept
def findRF : Code → Option (Operand × Array Tmp × Code × Code)
  | .seq a b => match findRF a with | some x => some x | none => findRF b
  | .block _ a => findRF a
  | .loop a => findRF a
  | .cond _ a b => match findRF a with | some x => some x | none => findRF b
  | .rangeFunc g ps x y => some (g, ps, x, y)
  | _ => none
def rfG (fn : Func) : Operand := match findRF (bodyOf fn) with | some x => x.1 | none => .tmp 0
def rfPs (fn : Func) : Array Tmp := match findRF (bodyOf fn) with | some x => x.2.1 | none => #[]
def rfX (fn : Func) : Code := match findRF (bodyOf fn) with | some x => x.2.2.1 | none => .skip
def rfY (fn : Func) : Code := match findRF (bodyOf fn) with | some x => x.2.2.2 | none => .skip
def seqB : Code → Bool
  | .seq _ _ => true
  | _ => false
def seqL : Code → Code
  | .seq a _ => a
  | _ => .skip
def seqR : Code → Code
  | .seq _ b => b
  | _ => .skip
def blkB : Code → Bool
  | .block _ _ => true
  | _ => false
def blkC : Code → Code
  | .block _ a => a
  | _ => .skip
def rgB : Code → Bool
  | .region _ ops false => noDefer ops
  | _ => false
def rgI : Code → Nat
  | .region id _ _ => id
  | _ => 0
def rgO : Code → Array Oper
  | .region _ ops _ => ops
  | _ => #[]
def cnB : Code → Bool
  | .cond _ _ _ => true
  | _ => false
def cnX : Code → Operand
  | .cond x _ _ => x
  | _ => .tmp 0
def cnZ : Code → Code
  | .cond _ _ z => z
  | _ => .skip
def skB : Code → Bool
  | .skip => true
  | _ => false
def RW (P : Program) (l : Nat) (c : Code) (J : S → PH → PH → Prop) (s : S) (u m : PH) : Prop :=
  ∀ (cx : Cx) (ρ : Nat → Nat) (a : Act) (w : World), Rel cx s u m ρ a w → c.wpIn (Fence.wide.inRound l) 0 P (Exit.then (fun a w => ∃ s u m ρ, Rel cx s u m ρ a w ∧ J s u m) (fun _ _ _ => False)) a w
section
variable {P : Program} {l : Nat} {J J' : S → PH → PH → Prop} {s : S} {u m : PH}
theorem RW.skip (h : J s u m) : RW P l .skip J s u m := fun cx ρ a w hr => wpIn_skip ⟨s, u, m, ρ, hr, h⟩
theorem RW.seq {x y : Code} (h : RW P l x (fun s u m => RW P l y J s u m) s u m) : RW P l (.seq x y) J s u m := fun cx ρ a w hr => wpIn_seq (wpIn_mono (h cx ρ a w hr) fun e a w hq => by
  cases e with
  | normal => obtain ⟨s, u, m, ρ, h1, h2⟩ := hq; exact h2 cx ρ a w h1
  | _ => exact hq)
theorem RW.block {id : Nat} {x : Code} (h : RW P l x J s u m) : RW P l (.block id x) J s u m := fun cx ρ a w hr => wpIn_block (wpIn_mono (h cx ρ a w hr) fun e a w hq => by
  cases e with
  | normal => exact hq
  | _ => exact hq.elim)
theorem RW.condF {x : Operand} {y z : Code} (hx : s.ev x = .v (.bool false)) (h : RW P l z J s u m) : RW P l (.cond x y z) J s u m := fun cx ρ a w hr =>
  wpIn_cond_false (by rw [hr.eval x (by rw [hx]; simp), hx]; rfl) (h cx ρ a w hr)
theorem RW.reg [Mixed P] {id : Nat} {ops : Array Oper} (fn : Func) (hnd : noDefer ops = true) (h : ∀ (Post : Spec) (J' : S → PH → PH → Prop), (∀ s u m, J s u m → J' s u m) → G P fn Post ([.reg id ops false (List.range ops.size), .lp J'], s) u m) : RW P l (.region id ops false) J s u m := fun cx ρ a w hr =>
  regIn (allF_round l) hnd (h ⟨fun _ _ _ => False, cx.m0⟩ J fun _ _ _ h => h) hr rfl fun s u m ρ a w h1 h2 => ⟨s, u, m, ρ, h1, h2⟩
end
theorem Contract.weak {P : Program} {f : FuncId} {args : List Value} {u m : PH} {R R' : Value → PH → PH → Prop} (h : Contract P f args u m R) (hr : ∀ v u' m', R v u' m' → R' v u' m') : Contract P f args u m R' := fun w hg => Calls.mono (h w hg) fun e w' ⟨v, u', m', e1, e2, e3, e4⟩ => ⟨v, u', m', e1, e2, e3, hr _ _ _ e4⟩
theorem RW.seq' {P : Program} {l : Nat} {J : S → PH → PH → Prop} {s : S} {u m : PH} {c : Code} (hc : seqB c = true) (h : RW P l (seqL c) (fun s u m => RW P l (seqR c) J s u m) s u m) : RW P l c J s u m := by
  cases c <;> first | exact RW.seq h | cases hc
theorem RW.block' {P : Program} {l : Nat} {J : S → PH → PH → Prop} {s : S} {u m : PH} {c : Code} (hc : blkB c = true) (h : RW P l (blkC c) J s u m) : RW P l c J s u m := by
  cases c <;> first | exact RW.block h | cases hc
theorem RW.skip' {P : Program} {l : Nat} {J : S → PH → PH → Prop} {s : S} {u m : PH} {c : Code} (hc : skB c = true) (h : J s u m) : RW P l c J s u m := by
  cases c <;> first | exact RW.skip h | cases hc
theorem RW.condF' {P : Program} {l : Nat} {J : S → PH → PH → Prop} {s : S} {u m : PH} {c : Code} (hc : cnB c = true) (hx : s.ev (cnX c) = .v (.bool false)) (h : RW P l (cnZ c) J s u m) : RW P l c J s u m := by
  cases c <;> first | exact RW.condF hx h | cases hc
theorem RW.reg' {P : Program} [Mixed P] {l : Nat} {J : S → PH → PH → Prop} {s : S} {u m : PH} {c : Code} (fn : Func) (hc : rgB c = true) (h : ∀ (Post : Spec) (J' : S → PH → PH → Prop), (∀ s u m, J s u m → J' s u m) → G P fn Post ([.reg (rgI c) (rgO c) false (List.range (rgO c).size), .lp J'], s) u m) : RW P l c J s u m := by
  cases c with
  | region id ops dr =>
    cases dr with
    | false => exact RW.reg fn hc h
    | true => cases hc
  | _ => cases hc
def busy (r : Loop) : Loop := { r with state := .busy }
theorem two_params (p q : Nat) (a b : Value) (t : Array Value) : ((#[p, q].zip [a, b].toArray).foldl (fun tmps (t, a) => tmps.setIfInBounds t a) t) = (t.setIfInBounds p a).setIfInBounds q b := by
  rw [← Array.foldl_toList]; simp
theorem yieldC_of {P : Program} {l n : Nat} {r : Loop} {args : List Value} {T : List (Nat × Value)} {u m : PH} {K : PH → PH → Prop} (hm : m l = some (.loop r)) (hr : r.state = .ready) (hp : r.pending = none) (hs : args.length = r.params.size)
    (hn : r.tmps.size = n) (hT : ∀ x ∈ T, ((r.params.zip args.toArray).foldl (fun tmps (t, a) => tmps.setIfInBounds t a) r.tmps)[x.1]? = some x.2)
    (h : RW P l r.assign (fun s u1 m1 => m1 l = some (.loop r) ∧ RW P l r.body (fun _ u2 m2 => m2 l = some (.loop (busy r)) ∧ K u2 (m2.upd l (.loop r))) s u1 (m1.upd l (.loop (busy r)))) (S.ofT n T) u m) :
    YieldC P l args u m fun v u' m' => v = .bool true ∧ K u' m' := by
  intro w hgd
  have hl := hgd.pm l _ hm
  have hsz : ((r.params.zip args.toArray).foldl (fun tmps (t, a) => tmps.setIfInBounds t a) r.tmps).size = n := by
    rw [← hn, ← Array.foldl_toList]
    generalize (r.params.zip args.toArray).toList = L
    generalize r.tmps = t0
    induction L generalizing t0 with
    | nil => rfl
    | cons x L ih => rw [List.foldl_cons, ih]; simp
  refine ⟨r.fn, _, r.assign, r.body, run_yield hl (by simpa using hs), roundIn_of_wpIn trivial ?_⟩
  have hrel := Rel.start (T := T) hgd (tmps := (r.params.zip args.toArray).foldl (fun tmps (t, a) => tmps.setIfInBounds t a) r.tmps) hT
  rw [hsz] at hrel
  refine wpIn_mono (h _ _ _ _ hrel) fun e a1 w1 hq => ?_
  cases e with
  | normal =>
    obtain ⟨s1, u1, m1, ρ1, r1, h1, h2⟩ := hq
    have hl1 := r1.gd.pm l _ h1
    have hne : ∀ k b, s1.hp k = some b → ρ1 k ≠ l := fun k b hb e => by
      obtain ⟨_, _, _, e4⟩ := r1.box k b hb
      rw [e, h1] at e4; cases e4
    obtain ⟨g1, g2⟩ := r1.gd.putO (o' := .loop (busy r)) h1 rfl
    have r2 : Rel ⟨w, u, m⟩ s1 u1 (m1.upd l (.loop (busy r))) ρ1 a1 (w1.putObj l (.loop (busy r))) := by
      refine ⟨r1.sz, r1.tm, r1.df.of fun q e _ hu hm' => ?_, fun k b hb => ?_, r1.inj, r1.lv, g1, r1.gr.trans g2⟩
      · have hql : q ≠ l := fun e' => by rw [e', h1] at hm'; cases hm'
        exact ⟨by rw [World.putObj_heap_other hql]; exact e, hu, by rw [upd_ne _ _ hql]; exact hm'⟩
      · obtain ⟨e1, e2, e3, e4⟩ := r1.box k b hb
        exact ⟨by rw [World.putObj_heap_other (hne k b hb)]; exact e1, e2, e3, by rw [upd_ne _ _ (hne k b hb)]; exact e4⟩
    refine ⟨_, run_beginRound hl1 hr, wpIn_mono (h2 _ _ _ _ r2) fun e2 a2 w2 hq2 => ?_⟩
    cases e2 with
    | normal =>
      obtain ⟨s2, u2, m2, ρ2, r3, h3, h4⟩ := hq2
      have hl2 := r3.gd.pm l _ h3
      refine ⟨_, _, run_endRound none hl2, ?_⟩
      have e5 : ({ busy r with state := if (none : Option Code).isNone then .ready else .done, pending := none } : Loop) = r := by
        unfold busy
        cases r
        simp only at hr hp
        subst hr; subst hp; rfl
      rw [e5]
      obtain ⟨g3, g4⟩ := r3.gd.putO (o' := .loop r) h3 rfl
      exact ⟨_, _, _, rfl, g3, r3.gr.trans g4, rfl, h4⟩
    | _ => exact hq2.elim
  | _ => exact hq.elim
section
variable {P : Program} [Mixed P] {fn : Func} {Post : Spec} {st : List KI × S} {u m : PH}
def rfAt (st : List KI × S) : Option (Operand × Array Tmp × Code × Code) := match st.1 with
  | .code (.rangeFunc g ps x y) :: _ => some (g, ps, x, y)
  | _ => none
def rfNext (st : List KI × S) : List KI × S := match st.1 with
  | .code (.rangeFunc _ _ _ _) :: k => (k, st.2)
  | _ => st
theorem G.rangeF (g : Operand) (ps : Array Tmp) (x y : Code) (gid : Nat) (cap : List Value) (Inv : PH → PH → Prop) (h : rfAt (adv P st) = some (g, ps, x, y)) (hg : (adv P st).2.ev g = .v (.func (.func gid) #[] cap.toArray)) (hn : noReg (rfNext (adv P st)).1 = true)
    (hc : ∀ args w, (callFunc gid args).run P w = .ok (.enter gid args) w)
    (hcall : ∀ (l : Nat) (r : Loop), r.state = .ready → r.pending = none → r.params = ps → r.assign = x → r.body = y → r.tmps.size = (adv P st).2.n → (∀ d v, (adv P st).2.tm d = .v v → r.tmps[d]? = some v) → m l = none → u l = none →
      Contract P gid (.func (.yield l) #[] #[] :: cap) u (m.upd l (.loop r)) fun _ u' m' => ∃ r' : Loop, r'.state ≠ .busy ∧ r'.pending = none ∧ m' l = some (.loop r') ∧ ∃ m'', PH.le m'' m' ∧ m'' l = none ∧ Inv u' m'')
    (k : ∀ u' m', PH.le u u' → Inv u' m' → G P fn Post (rfNext (adv P st)) u' m') : G P fn Post st u m := by
  refine G.stp ?_
  generalize adv P st = st' at h hg hn hcall k
  obtain ⟨ks, s⟩ := st'
  match ks, h with
  | .code (.rangeFunc g' ps' x' y') :: kk, h =>
    simp only [rfAt, Option.some.injEq, Prod.mk.injEq] at h
    obtain ⟨rfl, rfl, rfl, rfl⟩ := h
    simp only [rfNext] at hn hcall k
    refine ⟨?_⟩
    intro c ρ a w hm0 hr
    show (Code.rangeFunc g' ps' x' y').wp P (cont P fn Post c kk) a w
    refine (wpIn_wide (n := 0)).1 (wpIn_rangeFunc fun fid _ => ?_)
    obtain ⟨rec, hrec⟩ : ∃ rec : Loop, rec = { state := .ready, pending := none, fn := fid, tmps := a.tmps, params := ps', assign := x', body := y', defers := w.heap.size } := ⟨_, rfl⟩
    have hen := run_enterLoop_outer (P := P) (w := w) fid a.tmps ps' x' y'
    rw [← hrec] at hen
    obtain ⟨w1, hw1⟩ : ∃ w1, w1 = w.alloc (.deferred (some [])) := ⟨_, rfl⟩
    rw [← hw1] at hen
    have hs1 : w1.heap.size = w.heap.size + 1 := by rw [hw1, size_alloc']
    rw [← hs1] at hen
    have hd1 : w1.heap[w.heap.size]? = some (.deferred (some [])) := by rw [hw1]; exact heap_alloc_eq _ _
    have hum : u w.heap.size = none := hr.gd.pu.none (Nat.le_refl _)
    have hmm : m w.heap.size = none := hr.gd.pm.none (Nat.le_refl _)
    have hgd1 : Good u m w1 := by
      refine ⟨fun g o hg => ?_, fun g o hg => ?_, hr.gd.ap, fun g cs t fr j z hg hj => ?_⟩
      · rw [hw1, heap_alloc_lt _ _ (hr.gd.pu.lt hg)]; exact hr.gd.pu g o hg
      · rw [hw1, heap_alloc_lt _ _ (hr.gd.pm.lt hg)]; exact hr.gd.pm g o hg
      · by_cases e : g = w.heap.size
        · subst e; rw [hd1] at hg; simp at hg
        · have hlt := lt_of_at hg
          rw [hs1] at hlt
          rw [hw1, heap_alloc_lt _ _ (by omega)] at hg
          exact hr.gd.cl g cs t fr j z hg hj
    have hgr1 : Grown c.u0 c.m0 c.w0 u m w1 := hr.gr.trans ⟨by omega, fun g hg _ => by rw [hw1]; exact heap_alloc_lt _ _ hg, fun _ _ => rfl, fun _ _ h => h, by rw [hw1]; exact ⟨rfl, rfl⟩, fun _ => by rw [hw1]; exact ⟨rfl, Nat.le_refl _⟩⟩
    have hr1 : Rel c s u m ρ { a with defers := markOf w.heap.size :: a.defers } w1 := by
      refine ⟨hr.sz, hr.tm, ?_, fun k b hb => ?_, hr.inj, hr.lv, hgd1, hgr1⟩
      · obtain ⟨ds, d1, d2, d3⟩ := hr.df
        refine ⟨w.heap.size :: ds, List.nodup_cons.2 ⟨fun hmem => ?_, d1⟩, by rw [List.map_cons, d2], fun q hq => ?_⟩
        · obtain ⟨e, _⟩ := d3 _ hmem
          exact absurd (lt_of_at e) (by omega)
        · rcases List.mem_cons.1 hq with rfl | hq
          · exact ⟨hd1, hr.gr.sz, hum, hmm⟩
          · obtain ⟨e1, e2, e3, e4⟩ := d3 q hq
            exact ⟨by rw [hw1, heap_alloc_lt _ _ (lt_of_at e1)]; exact e1, e2, e3, e4⟩
      · obtain ⟨⟨cs, f1, f2, f3⟩, f4⟩ := hr.box k b hb
        exact ⟨⟨cs, by rw [hw1, heap_alloc_lt _ _ (lt_of_at f1)]; exact f1, f2, f3⟩, f4⟩
    obtain ⟨g1, g2, g3, g4⟩ := hgd1.newO (o := .loop rec) rfl
    have hr2 : Rel c s u (m.upd w1.heap.size (.loop rec)) ρ { a with defers := markOf w.heap.size :: a.defers } (w1.alloc (.loop rec)) := by
      refine ⟨hr1.sz, hr1.tm, hr1.df.of fun q e _ hu hm' => ?_, fun k b hb => ?_, hr1.inj, hr1.lv, g1, hr1.gr.trans g2⟩
      · have hlt := lt_of_at e
        exact ⟨by rw [heap_alloc_lt _ _ hlt]; exact e, hu, by rw [upd_ne _ _ (by omega)]; exact hm'⟩
      · obtain ⟨⟨cs, f1, f2, f3⟩, f4, f5, f6⟩ := hr1.box k b hb
        have hlt := lt_of_at f1
        exact ⟨⟨cs, by rw [heap_alloc_lt _ _ hlt]; exact f1, f2, f3⟩, f4, f5, by rw [upd_ne _ _ (by omega)]; exact f6⟩
    have hev : a.eval g' = .func (.func gid) #[] cap.toArray := by rw [hr.eval g' (by rw [hg]; simp), hg]; rfl
    have hcc := hcall w1.heap.size rec (by rw [hrec]) (by rw [hrec]) (by rw [hrec]) (by rw [hrec]) (by rw [hrec]) (by rw [hrec]; exact hr.sz) (fun d v hd => by
      have := hr.tm d (by rw [hd]; simp)
      rw [hd] at this
      rw [hrec]; exact this) g3 g4
    obtain ⟨dd, hdd⟩ : ∃ dd : Deferred, dd = { target := .fn (.func gid) cap.toArray, args := #[.func (.yield w1.heap.size) #[] #[]] } := ⟨_, rfl⟩
    have hres : (resolve a.eval (rangeCall g' w1.heap.size) 0).run P (w1.alloc (.loop rec)) = .ok dd (w1.alloc (.loop rec)) := by
      rw [hdd]; simp only [resolve, rangeCall, hev, Deferred.ofValue]; simp [Act.eval]
    have hinv : (invoke dd.target dd.args).run P (w1.alloc (.loop rec)) = .ok (.enter gid (.func (.yield w1.heap.size) #[] #[] :: cap).toArray) (w1.alloc (.loop rec)) := by
      rw [hdd]; simp [invoke, hc]
    refine ⟨w1.heap.size, [markOf w.heap.size], w1.alloc (.loop rec), dd, w1.alloc (.loop rec), gid, (.func (.yield w1.heap.size) #[] #[] :: cap).toArray, w1.alloc (.loop rec), hen, hres, fun _ _ => trivial, hinv, (fun h => by cases h), ?_⟩
    · refine callsIn_wide.2 (Calls.mono (hcc _ g1) fun e w3 he => ?_)
      obtain ⟨v, u', m', rfl, k1, k2, r', q1, q2, q3, m'', q4, q5, q6⟩ := he
      have hl3 := k1.pm _ _ q3
      refine ⟨none, _, by rw [← q2]; exact run_endLoop hl3 q1, ?_⟩
      obtain ⟨p1, p2⟩ := k1.putO (o' := .loop { r' with state := .exhausted }) q3 rfl
      have hle4 : PH.le m'' (m'.upd w1.heap.size (.loop { r' with state := .exhausted })) := fun g o hg => by
        by_cases e : g = w1.heap.size
        · subst e; rw [q5] at hg; cases hg
        · rw [upd_ne _ _ e]; exact q4 g o hg
      have hr3 : Rel c s u' (m'.upd w1.heap.size (.loop { r' with state := .exhausted })) ρ { a with defers := markOf w.heap.size :: a.defers } (w3.putObj w1.heap.size (.loop { r' with state := .exhausted })) := by
        have g5 := k2.trans p2
        refine ⟨hr2.sz, hr2.tm, hr2.df.of fun q e _ hu hm' => ⟨by rw [g5.old _ (lt_of_at e) hm']; exact e, by rw [g5.us _ (lt_of_at e)]; exact hu, g5.ms _ (lt_of_at e) hm'⟩, fun k b hb => ?_, hr2.inj, hr2.lv, p1, hr2.gr.trans g5⟩
        obtain ⟨e1, e2, e3, e4⟩ := hr2.box k b hb
        have hlt : ρ k < (w1.alloc (.loop rec)).heap.size := by obtain ⟨cs, e, _⟩ := e1; exact lt_of_at e
        refine ⟨?_, e2, ?_, ?_⟩
        · rw [g5.old _ hlt e4]; exact e1
        · rw [g5.us _ hlt]; exact e3
        · exact g5.ms _ hlt e4
      have hk := (k u' m'' (k2.le g1.pu) q6).out
      rw [Sym.ofNo hn] at hk
      exact hk c ρ _ _ hm0 (hr3.less hle4)
end
end Go.Proofs.YtpdboaedoimahaaGreatDoor
end
section
set_option linter.unusedSectionVars false
set_option linter.unusedVariables false
namespace Go.Proofs.YtpdboaedoimahaaGreatDoor
open Go.RowKit Go.MapKept
theorem ArrAt.base {m0 m : PH} {v : Value} {t : TypeId} {sz : Nat} {es : List Value} {b : Nat} {o : Obj} (h : ArrAt m0 m v t sz es) (hb : m0 b ≠ none) : ArrAt (m0.upd b o) (m.upd b o) v t sz es := by
  obtain ⟨ho, h⟩ := h
  rcases h with ⟨h1, h2, rfl⟩ | ⟨g, cap, rest, h1, rfl, h2, h3, h4, h5⟩
  · exact ⟨ho, .inl ⟨h1, h2, rfl⟩⟩
  · have hne : g ≠ b := fun e => by subst e; exact hb h1
    exact ⟨ho, .inr ⟨g, cap, rest, by rw [upd_ne _ _ hne]; exact h1, upd_comm _ _ _ hne, h2, h3, h4, h5⟩⟩
theorem ArrAt.see {m0 m : PH} {v : Value} {t : TypeId} {sz : Nat} {es : List Value} {b : Nat} {o : Obj} (h : ArrAt m0 m v t sz es) (hb : m0 b = some o) : m b = some o := h.le b o hb
end Go.Proofs.YtpdboaedoimahaaGreatDoor
end
section
set_option linter.unusedSectionVars false
set_option linter.unusedVariables false
namespace Go.Proofs.YtpdboaedoimahaaGreatDoor
open Go.RowKit Go.MapKept
theorem del_upd {m : PH} {l b : Nat} {o : Obj} (h : b ≠ l) : (m.upd b o).del l = (m.del l).upd b o := by
  funext k
  by_cases e : k = l
  · subst e
    rw [upd_ne _ _ (fun e' => h e'.symm)]
    simp [PH.del]
  · by_cases e' : k = b
    · subst e'; rw [upd_same]; simp [PH.del, e, upd_same]
    · rw [upd_ne _ _ e']; simp [PH.del, e, upd_ne _ _ e']
theorem del_upd_same {m : PH} {l : Nat} {o : Obj} (h : m l = none) : (m.upd l o).del l = m := by
  funext k
  by_cases e : k = l
  · subst e; simp [PH.del, h]
  · simp [PH.del, e, upd_ne _ _ e]
theorem del_le (m : PH) (l : Nat) : PH.le (m.del l) m := fun g o h => by
  unfold PH.del at h
  split at h
  · cases h
  · exact h
theorem del_at (m : PH) (l : Nat) : m.del l l = none := by unfold PH.del; simp
theorem ArrAt.del {m0 m : PH} {v : Value} {t : TypeId} {sz : Nat} {es : List Value} {l : Nat} (h : ArrAt m0 m v t sz es) (hl : m0 l ≠ none) : ArrAt (m0.del l) (m.del l) v t sz es := by
  obtain ⟨ho, h⟩ := h
  rcases h with ⟨h1, h2, rfl⟩ | ⟨g, cap, rest, h1, rfl, h2, h3, h4, h5⟩
  · exact ⟨ho, .inl ⟨h1, h2, rfl⟩⟩
  · have hne : g ≠ l := fun e => by subst e; exact hl h1
    exact ⟨ho, .inr ⟨g, cap, rest, by unfold PH.del; rw [if_neg hne]; exact h1, del_upd hne, h2, h3, h4, h5⟩⟩
def BoxL (t et : TypeId) (sz b : Nat) (mr : PH) (es : List Value) (m : PH) : Prop := ∃ a c, ArrAt (mr.upd b (.cells #[.slice a es.length c] t (0, 0))) m (.slice a es.length c) et sz es
theorem BoxL.see {t et : TypeId} {sz b l : Nat} {mr m : PH} {es : List Value} {o : Obj} (h : BoxL t et sz b mr es m) (hb : b ≠ l) (hl : mr l = some o) : m l = some o := by
  obtain ⟨a, c, h⟩ := h
  exact h.see (by rw [upd_ne _ _ (fun e => hb e.symm)]; exact hl)
theorem BoxL.base {t et : TypeId} {sz b l : Nat} {mr m : PH} {es : List Value} {o : Obj} (h : BoxL t et sz b mr es m) (hb : b ≠ l) (hl : mr l ≠ none) : BoxL t et sz b (mr.upd l o) es (m.upd l o) := by
  obtain ⟨a, c, h⟩ := h
  refine ⟨a, c, ?_⟩
  rw [upd_comm _ _ _ (fun e => hb e.symm)]
  exact h.base (by rw [upd_ne _ _ (fun e => hb e.symm)]; exact hl)
set_option maxHeartbeats 4000000 in
theorem encVector0 {u : PH} {v tv : Value} {T : List (List UInt8 × Nat)} {R : List SRel} {F : List Feat} {lab : Int} {ss : List (List UInt8)} (h : TupP u v tv T R F lab ss) :
    Fn0 Tryz.prog 14 [v, tv] u fun r u' => ∃ lv, r = .tuple #[lv, .int .i64 0] ∧ ListP u' lv 3 ((vecL F ss F.length).map termV) := by
  have htu := encTuple0 h
  have hen := fun (u' : PH) (l : PH.le u u') => entries0 (h.mono l)
  have hor := h
  have hf8 := h.ok.f2
  obtain ⟨⟨xa, xc, xb, xd, xe, xf, rfl, hTL, hRL, hFL⟩, ok, hS, hT⟩ := h
  obtain ⟨ya, yc, rfl⟩ := hS.opn
  rw [List.length_map] at hS htu hen hor ⊢
  refine Fn0.of Tryz.func14 (by kernel_rfl) (by kernel_rfl) ?_
  refine G.call0 _ _ (by kernel_rfl) Tryz.call39 htu ?_
  rintro v1 u1 l1 rfl
  refine G.neqF 0 0 (by kernel_rfl) (by omega) ?_
  refine G.pastI ?_
  refine G.pub 4000 35 [.slice none 0 0] (by kernel_rfl) (by kernel_rfl) ?_
  intro b hb1 hb2
  refine G.call0 _ _ (by kernel_rfl) Tryz.call44 (hen u1 l1) ?_
  rintro v2 u2 l2 ⟨b1, b2, rfl, e1, e2⟩
  refine G.rangeF (rfG Tryz.f14) (rfPs Tryz.f14) (rfX Tryz.f14) (rfY Tryz.f14) 85 [.pointer (some ⟨b1, 0, none⟩), .pointer (some ⟨b2, 0, none⟩)] (fun u' m' => BoxL 35 57 3 b PH.mt ((vecL F ss F.length).map termV) m') (by kernel_rfl) (by kernel_rfl) (by kernel_rfl) Tryz.call85 ?_ ?_
  · intro l r r1 r2 r3 r4 r5 r6 r7 hl1 hl2
    have hbl : b ≠ l := fun e => by subst e; rw [upd_same] at hl1; cases hl1
    have hps : r.params = #[19, 20] := r3.trans (by kernel_rfl)
    have hn : r.tmps.size = 28 := r6.trans (by kernel_rfl)
    have ht7 : r.tmps[7]? = some (.pointer (some ⟨b, 0, none⟩)) := r7 7 _ (by kernel_rfl)
    have hml : ∀ {es : List Value} {m' : PH}, BoxL 35 57 3 b (blk1 l (.loop r)) es m' → m' l = some (.loop r) := fun h => h.see hbl (blk1_same _ _)
    refine Contract.weak (entries1 (hor.mono (l1.trans l2)) e1 e2 (fun L _ m' => BoxL 35 57 3 b (blk1 l (.loop r)) (L.map termV) m') (fun _ _ _ _ _ h => h) (fun i x u' m' hi hl hJ hx hxi => ?_) ?_) ?_
    · have hlen : (vecL F ss i).length ≤ 8 := Nat.le_trans (vecL_len F ss i) hf8
      refine yieldC_of (n := 28) (T := [(7, .pointer (some ⟨b, 0, none⟩)), (19, parV x.1), (20, .string (mkS (ratT x.2)))]) (hml hJ) r1 r2 (by rw [hps]; rfl) hn (fun y hy => ?_) ?_
      · rw [hps, two_params]
        simp only [List.mem_cons, List.not_mem_nil, or_false] at hy
        rcases hy with rfl | rfl | rfl
        · rw [Array.getElem?_setIfInBounds_ne (by simp), Array.getElem?_setIfInBounds_ne (by simp)]; exact ht7
        · rw [Array.getElem?_setIfInBounds_ne (by simp)]; simp [hn]
        · simp [hn]
      · rw [r4, r5]
        refine RW.seq' (by kernel_rfl) (RW.reg' Tryz.f14 (by kernel_rfl) fun Post J' hJ' => ?_)
        refine G.back (by kernel_rfl) (hJ' _ _ _ (RW.reg' Tryz.f14 (by kernel_rfl) fun Post J2 hJ2 => ?_))
        refine G.back (by kernel_rfl) (hJ2 _ _ _ ⟨hml hJ, RW.block' (by kernel_rfl) (RW.reg' Tryz.f14 (by kernel_rfl) fun Post J3 hJ3 => ?_)⟩)
        have hJb := hJ.base (o := .loop (busy r)) hbl (by rw [blk1_same]; simp)
        obtain ⟨a, c, hA⟩ := hJb
        rw [List.length_map] at hA
        have hbs : ∀ {n c' : Nat} {a' : Option Addr}, (((blk1 l (.loop r)).upd l (.loop (busy r))).upd b (.cells #[.slice a' n c'] 35 (0, 0))) b = some (.cells [Value.slice a' n c'].toArray 35 (0, 0)) := upd_same _ _ _
        refine G.loadM none b 0 (.slice a (vecL F ss i).length c) (by kernel_rfl) (by kernel_rfl) (elP_of (xs := [.slice a (vecL F ss i).length c]) (hA.see hbs) rfl) ?_
        refine G.buildU 57 3 40 (.agg #[.int .i64 0, .string (mkS []), .string (mkS [])]) [.agg #[.int .i64 x.1.1, .string (mkS x.1.2), .string (mkS (ratT x.2))]] (by kernel_rfl) (termV_ok x) rfl (by omega) (by simp) (by simp) ?_
        intro g1 u4 l4 e4
        refine G.append 57 3 40 (.agg #[.int .i64 0, .string (mkS []), .string (mkS [])]) _ ((vecL F ss i).map termV) [.agg #[.int .i64 x.1.1, .string (mkS x.1.2), .string (mkS (ratT x.2))]] (.slice a (vecL F ss i).length c) g1 0 1 1 (by kernel_rfl) rfl rfl (by omega) hA e4 (termV_ok x) rfl (by omega) (by simp; omega) (by simp; omega) ?_
        intro v5 m5 hA5
        rw [show ((vecL F ss i).map termV) ++ [.agg #[.int .i64 x.1.1, .string (mkS x.1.2), .string (mkS (ratT x.2))]] = ((vecL F ss i) ++ [x]).map termV by rw [List.map_append]; rfl] at hA5
        obtain ⟨a5, c5, rfl⟩ := hA5.shape
        refine G.storeM 1 b 0 35 [.slice a (vecL F ss i).length c] (.slice a5 (((vecL F ss i) ++ [x]).map termV).length c5) (by kernel_rfl) (hA5.see hbs) (fun y hy => by simp at hy; subst hy; rfl) (by simp) rfl rfl ?_
        have hA6 := hA5.base (b := b) (o := .cells #[.slice a5 (((vecL F ss i) ++ [x]).map termV).length c5] 35 (0, 0)) (by rw [hbs]; simp)
        rw [upd_upd] at hA6
        have hB : BoxL 35 57 3 b ((blk1 l (.loop r)).upd l (.loop (busy r))) (((vecL F ss i) ++ [x]).map termV) (m5.upd b (.cells #[.slice a5 (((vecL F ss i) ++ [x]).map termV).length c5] 35 (0, 0))) := ⟨a5, c5, hA6⟩
        refine G.back (by kernel_rfl) (hJ3 _ _ _ ⟨hB.see hbl (upd_same _ _ _), ?_⟩)
        have hB2 := hB.base (o := .loop r) hbl (by rw [upd_same]; simp)
        rw [upd_upd] at hB2
        unfold blk1 at hB2 ⊢
        rw [upd_upd] at hB2
        exact hB2
    · refine ⟨none, 0, ?_⟩
      unfold blk1
      rw [upd_comm _ _ _ (fun e => hbl e.symm)]
      exact ArrAt.nil _ _ _
    · rintro v' u' m' hJ
      refine ⟨r, by rw [r1]; simp, r2, hml hJ, m'.del l, del_le _ _, del_at _ _, ?_⟩
      obtain ⟨a, c, hA⟩ := hJ
      have := hA.del (l := l) (by rw [upd_ne _ _ (fun e => hbl e.symm), blk1_same]; simp)
      rw [del_upd hbl] at this
      unfold blk1 at this
      rw [del_upd_same rfl] at this
      exact ⟨a, c, this⟩
  · rintro u3 m3 l3 ⟨a, c, hA⟩
    refine G.giveP (ma := m3) (sm := PH.mt) (by kernel_rfl) (by funext g; unfold PH.or; cases m3 g <;> rfl) (fun g => .inr rfl) (fun g => .inl rfl) ?_
    intro u4 l4 hm4
    have hb4 : m3 b = some (.cells [Value.slice a ((vecL F ss F.length).map termV).length c].toArray 35 (0, 0)) := hA.see (upd_same _ _ _)
    refine G.loadU none b 0 (.slice a ((vecL F ss F.length).map termV).length c) (by kernel_rfl) (by kernel_rfl) ((elP_of (xs := [.slice a ((vecL F ss F.length).map termV).length c]) hb4 rfl).mono hm4) ?_
    exact G.ret (.tuple #[.slice a ((vecL F ss F.length).map termV).length c, .int .i64 0]) (by kernel_rfl) ⟨rfl, _, rfl, hA.list hm4⟩
end Go.Proofs.YtpdboaedoimahaaGreatDoor
end
section
set_option linter.unusedSectionVars false
set_option linter.unusedVariables false
namespace Go.Proofs.YtpdboaedoimahaaGreatDoor
open Go.RowKit Go.MapKept
theorem ArrAt.fresh {m0 m : PH} {v : Value} {t : TypeId} {sz : Nat} {es : List Value} {b : Nat} {o : Obj} (h : ArrAt m0 m v t sz es) (hb : m b = none) : ArrAt (m0.upd b o) (m.upd b o) v t sz es := by
  obtain ⟨ho, h⟩ := h
  rcases h with ⟨h1, h2, rfl⟩ | ⟨g, cap, rest, h1, rfl, h2, h3, h4, h5⟩
  · exact ⟨ho, .inl ⟨h1, h2, rfl⟩⟩
  · have hne : g ≠ b := fun e => by subst e; rw [upd_same] at hb; cases hb
    exact ⟨ho, .inr ⟨g, cap, rest, by rw [upd_ne _ _ hne]; exact h1, upd_comm _ _ _ hne, h2, h3, h4, h5⟩⟩
section
variable {P : Program} [Mixed P] {fn : Func} {Post : Spec} {st : List KI × S} {u m : PH}
theorem G.appendL (e : TypeId) (sz bt : Nat) (z : Value) (m0 : PH) (es xs : List Value) (v : Value) (a : Option Addr) (n c : Nat) (h : stopV P (adv P st) = .app (some (e, sz, bt, z)) true [v, .slice a n c]) (hz : z.cells.toList.all cellOK = true) (hzs : z.cells.size = sz) (hsz : 0 < sz)
    (ha : ArrAt m0 m v e sz es) (hx : ListP u (.slice a n c) sz xs) (ho : ElsOK sz xs) (hb : (es.length + xs.length) * bt ≤ 140737488355328) (hb2 : es.length + xs.length ≤ 9223372036854775807)
    (k : ∀ v' m', ArrAt m0 m' v' e sz (es ++ xs) → G P fn Post (nx (adv P st) v') u m') : G P fn Post st u m := by
  have hxl : n = xs.length := by obtain ⟨_, _, e1, _⟩ := hx; cases e1; rfl
  cases xs with
  | nil =>
    simp only [List.length_nil] at hxl
    subst hxl
    obtain ⟨a1, c1, rfl⟩ := ha.shape
    refine G.append0 e sz bt z a1 a es.length c1 c h ha.cap ?_
    exact k _ _ (by rw [List.append_nil]; exact ha)
  | cons x xs =>
    obtain ⟨b, off, rfl, _⟩ := ListP.at' hx (j := 0) (e := x) rfl
    subst hxl
    exact G.append e sz bt z m0 es (x :: xs) v b off _ c h hz hzs hsz ha hx.els ho rfl (by simp) hb hb2 k
end
set_option maxHeartbeats 1000000 in
theorem pIndex0 {u : PH} {v : Value} {L : List Par} {p : Par} {k : Nat} (h : ListP u v 2 (L.map parV)) (hk : L[k]? = some p) (hn : ∀ j, j < k → L[j]? ≠ some p) (hl : L.length ≤ 1000000) :
    Fn0 Tryz.prog 45 [v, parV p] u fun r _ => r = .int .i64 (k : Int) := by
  obtain ⟨a, c, rfl⟩ := h.opn
  rw [List.length_map] at h ⊢
  obtain ⟨hkl, hkp⟩ := List.getElem?_eq_some_iff.1 hk
  refine Fn0.of Tryz.func45 (by kernel_rfl) (by kernel_rfl) ?_
  refine G.loop (ι := Nat) (fun i => [(0, .v (.slice a L.length c)), (3, .p 0 0), (7, .v (.int .i64 (L.length : Int))), (8, .v (.int .i64 (i : Int)))]) (fun _ => [(0, ⟨55, [.v (.int .i64 p.1), .v (.string (mkS p.2))]⟩)])
    (fun i u' m' => i ≤ k ∧ m' = PH.mt) (fun i => k + 1 - i) 0 (by kernel_rfl) (fun _ => by kernel_rfl) ⟨by kernel_rfl, by kernel_rfl, by kernel_rfl⟩ ⟨by omega, rfl⟩ ?_
  rintro J i hJ u1 m1 l1 ⟨hi, rfl⟩
  refine G.lssT (i : Int) (L.length : Int) (by kernel_rfl) (by omega) ?_
  have hLi : L[i]? = some L[i] := List.getElem?_eq_getElem (by omega)
  obtain ⟨ba, oa, rfl, ea⟩ := ListP.at' (h.mono l1) (j := i) (e := parV L[i]) (by simp [hLi])
  refine G.addr ba oa L.length c i 2 (by kernel_rfl) (by omega) ?_
  refine G.loadU (some 2) ba (oa + i * 2) (.agg #[.int .i64 L[i].1, .string (mkS L[i].2)]) (by kernel_rfl) (by kernel_rfl) ea ?_
  by_cases he : p = L[i]
  · have hik : i = k := by
      rcases Nat.lt_or_ge i k with e | e
      · exact absurd (by rw [hLi, ← he]) (hn i e)
      · omega
    refine G.eqAgg 55 #[.int .i64 p.1, .string (mkS p.2)] #[.int .i64 L[i].1, .string (mkS L[i].2)] true (by kernel_rfl) (by kernel_rfl) (by kernel_rfl) (fun w => by rw [← decide_eq_true he]; exact keyPar.eq p L[i] w) ?_
    exact G.ret (.int .i64 (i : Int)) (by kernel_rfl) ⟨rfl, by rw [hik]⟩
  · have hik : i ≠ k := fun e => by subst e; exact he hkp.symm
    refine G.eqAgg 55 #[.int .i64 p.1, .string (mkS p.2)] #[.int .i64 L[i].1, .string (mkS L[i].2)] false (by kernel_rfl) (by kernel_rfl) (by kernel_rfl) (fun w => by rw [← decide_eq_false he]; exact keyPar.eq p L[i] w) ?_
    refine G.add (i : Int) 1 ((i + 1 : Nat) : Int) (by kernel_rfl) (by omega) (by omega) (by omega) ?_
    exact G.back (by kernel_rfl) (hJ (i + 1) _ _ _ ⟨by kernel_rfl, by kernel_rfl, by kernel_rfl⟩ l1 ⟨by omega, rfl⟩ (by omega))
def denL (P : List Par) (L : List (Par × Rat)) : List (List UInt8) := [49] :: P.map fun p => ratT (assocQ p L)
theorem denL_len (P : List Par) (L : List (Par × Rat)) : (denL P L).length = P.length + 1 := by unfold denL; simp
theorem denL_nil (P : List Par) : denL P [] = [49] :: List.replicate P.length [48] := by
  unfold denL
  congr 1
  have : (fun p : Par => ratT (assocQ p [])) = fun _ => [48] := by funext p; unfold assocQ; exact ratT_zero
  rw [this, List.map_const']
theorem assocQ_put {κ : Type} [DecidableEq κ] {a : κ} {x : κ × Rat} : ∀ {L : List (κ × Rat)}, x.1 ∉ L.map (·.1) → assocQ a (L ++ [x]) = if a = x.1 then x.2 else assocQ a L
  | [], _ => by obtain ⟨b, q⟩ := x; simp [assocQ]
  | (b, q) :: L, h => by
    rw [List.map_cons, List.mem_cons, not_or] at h
    rw [List.cons_append]
    unfold assocQ
    by_cases e : a = b
    · rw [if_pos e, if_neg (fun e' => h.1 (by rw [← e', e]))]; simp [e]
    · rw [if_neg e, assocQ_put h.2]
      simp [e]
theorem nodup_at {κ : Type} {l : List κ} (h : l.Nodup) {i j : Nat} {x : κ} (h1 : l[i]? = some x) (h2 : l[j]? = some x) : i = j := by
  obtain ⟨a1, a2⟩ := List.getElem?_eq_some_iff.1 h1
  obtain ⟨b1, b2⟩ := List.getElem?_eq_some_iff.1 h2
  rcases Nat.lt_trichotomy i j with e | e | e
  · exact absurd (a2.trans b2.symm) (List.pairwise_iff_getElem.1 h i j a1 b1 e)
  · exact e
  · exact absurd (b2.trans a2.symm) (List.pairwise_iff_getElem.1 h j i b1 a1 e)
theorem denL_snoc {P : List Par} {L : List (Par × Rat)} {x : Par × Rat} {k : Nat} (hk : P[k]? = some x.1) (hn : P.Nodup) (hx : x.1 ∉ L.map (·.1)) : (denL P L).set (k + 1) (ratT x.2) = denL P (L ++ [x]) := by
  unfold denL
  rw [List.set_cons_succ]
  congr 1
  obtain ⟨hkl, hkp⟩ := List.getElem?_eq_some_iff.1 hk
  refine List.ext_getElem (by simp) fun j h1 h2 => ?_
  rw [List.getElem_set]
  simp only [List.getElem_map]
  rw [assocQ_put hx]
  by_cases e : k = j
  · subst e; rw [if_pos rfl, if_pos hkp]
  · rw [if_neg e, if_neg]
    intro e'
    simp at h1
    exact e (nodup_at hn hk (by rw [List.getElem?_eq_getElem (by simpa using h1), e']))
set_option maxHeartbeats 8000000 in
theorem encDense0 {u : PH} {v pv tv : Value} {T : List (List UInt8 × Nat)} {R : List SRel} {F : List Feat} {lab : Int} {ss : List (List UInt8)} {Q : List Par} (h : TupP u v tv T R F lab ss) (hQ : ListP u pv 2 (Q.map parV)) (hs : SortK cmpP Q) (hin : ∀ x ∈ vecL F ss F.length, x.1 ∈ Q) (hl : Q.length ≤ 100000) :
    Fn0 Tryz.prog 13 [v, pv, tv] u fun r u' => ∃ lv, r = .tuple #[lv, .int .i64 0] ∧ ListP u' lv 1 ((denL Q (vecL F ss F.length)).map nmV) := by
  have htu := encTuple0 h
  have hen := fun (u' : PH) (l : PH.le u u') => entries0 (h.mono l)
  have hor := h
  have hf8 := h.ok.f2
  obtain ⟨⟨xa, xc, xb, xd, xe, xf, rfl, hTL, hRL, hFL⟩, ok, hS, hT⟩ := h
  obtain ⟨ya, yc, rfl⟩ := hS.opn
  obtain ⟨pa, pc, rfl⟩ := hQ.opn
  rw [List.length_map] at hS htu hen hor hQ ⊢
  rw [List.length_map] at ⊢
  have hnd := hs.nodup ordP
  refine Fn0.of Tryz.func13 (by kernel_rfl) (by kernel_rfl) ?_
  refine G.call0 _ _ (by kernel_rfl) Tryz.call39 htu ?_
  rintro v1 u1 l1 rfl
  refine G.neqF 0 0 (by kernel_rfl) (by omega) ?_
  refine G.loop (ι := Nat) (fun i => [(2, .v (.slice ya ss.length yc)), (3, .p 0 0), (4, .p 1 0), (6, .p 2 0), (7, .p 3 0), (9, .v (.int .i64 (i : Int)))])
    (fun _ => [(0, ⟨30, [.v (.slice xa T.length xc), .v (.slice xb R.length xd), .v (.slice xe F.length xf), .v (.int .i64 lab)]⟩), (1, ⟨41, [.v (.slice pa Q.length pc)]⟩), (2, ⟨49, [.v (.slice none 0 0)]⟩), (3, ⟨42, [.v (.int .i64 0)]⟩)])
    (fun i u' m' => 1 ≤ i ∧ m' = PH.mt) (fun i => Q.length - i) 1 (by kernel_rfl) (fun _ => by kernel_rfl) ⟨by kernel_rfl, by kernel_rfl, by kernel_rfl⟩ ⟨by omega, rfl⟩ ?_
  rintro J i hJ u2 m2 l2 ⟨hi, rfl⟩
  by_cases hlt : i < Q.length
  · refine G.lssT (i : Int) (Q.length : Int) (by kernel_rfl) (by omega) ?_
    have hQ2 := hQ.mono (l1.trans l2)
    have hQi : Q[i]? = some Q[i] := List.getElem?_eq_getElem hlt
    have hQj : Q[i - 1]? = some (Q[i - 1]'(by omega)) := List.getElem?_eq_getElem (by omega)
    have hcm : cmpP (Q[i - 1]'(by omega)) Q[i] < 0 := List.pairwise_iff_getElem.1 hs (i - 1) i (by omega) hlt (by omega)
    obtain ⟨ba, oa, e0, ea⟩ := ListP.at' hQ2 (j := i) (e := parV Q[i]) (by simp [hQi])
    obtain ⟨ba', oa', e0', eb⟩ := ListP.at' hQ2 (j := i - 1) (e := parV (Q[i - 1]'(by omega))) (by simp [hQj])
    rw [e0] at e0'
    cases e0'
    subst e0
    refine G.sub (i : Int) 1 ((i - 1 : Nat) : Int) (by kernel_rfl) (by omega) (by omega) (by omega) ?_
    refine G.addr ba oa Q.length pc (i - 1) 2 (by kernel_rfl) (by omega) ?_
    refine G.loadU (some 2) ba (oa + (i - 1) * 2) (parV (Q[i - 1]'(by omega))) (by kernel_rfl) (by kernel_rfl) eb ?_
    refine G.addr ba oa Q.length pc i 2 (by kernel_rfl) hlt ?_
    refine G.loadU (some 2) ba (oa + i * 2) (parV Q[i]) (by kernel_rfl) (by kernel_rfl) ea ?_
    refine G.call0 _ _ (by kernel_rfl) Tryz.call42 (less0 _ _ true (decide_eq_true hcm)) ?_
    rintro v3 u3 l3 rfl
    refine G.add (i : Int) 1 ((i + 1 : Nat) : Int) (by kernel_rfl) (by omega) (by omega) (by omega) ?_
    exact G.back (by kernel_rfl) (hJ (i + 1) _ _ _ ⟨by kernel_rfl, by kernel_rfl, by kernel_rfl⟩ (l2.trans l3) ⟨by omega, rfl⟩ (by omega))
  refine G.lssF (i : Int) (Q.length : Int) (by kernel_rfl) (by omega) ?_
  clear hJ
  refine G.pub 1 41 [.slice pa Q.length pc] (by kernel_rfl) (by kernel_rfl) ?_
  intro bp hbp1 hbp2
  refine G.buildM 34 1 16 (.string (mkS [])) [.string (mkS [49])] (by kernel_rfl) (strsV_ok [[49]]) rfl (by omega) (by simp) (by simp) ?_
  intro g3 m3 hA3
  refine G.buildU 34 1 16 (.string (mkS [])) [.string (mkS [48])] (by kernel_rfl) (strsV_ok [[48]]) rfl (by omega) (by simp) (by simp) ?_
  intro g4 u4 l4 e4
  have hLP : ListP u4 (.slice (some ⟨g4, 0, none⟩) 1 1) 1 [.string (mkS [48])] := ⟨_, 1, rfl, Nat.le_refl _, fun j e hj => ⟨g4, 0, rfl, e4 j e hj⟩⟩
  refine G.loadM none bp 0 (.slice pa Q.length pc) (by kernel_rfl) (by kernel_rfl) (elP_of (xs := [.slice pa Q.length pc]) (hA3.see (upd_same _ _ _)) rfl) ?_
  refine G.call0 _ _ (by kernel_rfl) Tryz.call43 (repeatS0 (n := Q.length) hLP (strsV_ok [[48]]) (by omega)) ?_
  intro v5 u5 l5 k5
  obtain ⟨a5, c5, rfl⟩ := ListP.opn k5
  have hd0 : (denL Q []).map nmV = [Value.string (mkS [49])] ++ List.replicate Q.length (Value.string (mkS [48])) := by
    rw [denL_nil, List.map_cons, List.map_replicate]; rfl
  refine G.appendL 34 1 16 (.string (mkS [])) _ [.string (mkS [49])] (List.replicate Q.length (.string (mkS [48]))) _ a5 _ c5 (by kernel_rfl) rfl rfl (by omega) hA3 k5 ((strsV_ok [[48]]).replicate _) (by simp; omega) (by simp; omega) ?_
  intro v6 m6 hA6
  rw [← hd0] at hA6
  obtain ⟨a6, c6, rfl⟩ := hA6.shape
  refine G.pub 9006 49 [.slice a6 ((denL Q []).map nmV).length c6] (by kernel_rfl) (by kernel_rfl) ?_
  intro b hb1 hb2
  have hbp : m6 bp = some (.cells [Value.slice pa Q.length pc].toArray 41 (0, 0)) := hA6.see (upd_same _ _ _)
  have hbb : b ≠ bp := fun e => by subst e; rw [hbp] at hb2; cases hb2
  have hA7 := hA6.fresh (o := .cells [Value.slice a6 ((denL Q []).map nmV).length c6].toArray 49 (0, 0)) hb2
  have le5 : PH.le u u5 := (((l1.trans l2).trans l4).trans l5)
  refine G.call0 _ _ (by kernel_rfl) Tryz.call44 (hen u5 le5) ?_
  rintro v8 u8 l8 ⟨b1, b2, rfl, e1, e2⟩
  obtain ⟨mr, hmr⟩ : ∃ mr, mr = blk1 bp (.cells [Value.slice pa Q.length pc].toArray 41 (0, 0)) := ⟨_, rfl⟩
  have hB0 : BoxL 49 34 1 b mr ((denL Q []).map nmV) (m6.upd b (.cells [Value.slice a6 ((denL Q []).map nmV).length c6].toArray 49 (0, 0))) := by
    rw [hmr]; exact ⟨a6, c6, hA7⟩
  have hmp : mr bp = some (.cells [Value.slice pa Q.length pc].toArray 41 (0, 0)) := by rw [hmr]; exact blk1_same _ _
  have hdsee : ∀ {es : List Value} {m' : PH}, BoxL 49 34 1 b mr es m' → PH.le mr m' := fun h => (by
    obtain ⟨a, c, h⟩ := h
    exact fun g o hg => h.see (by rw [upd_ne _ _ (fun e => by rw [hmr] at hg; rw [e, blk1_ne _ hbb] at hg; cases hg)]; exact hg))
  refine G.rangeF (rfG Tryz.f13) (rfPs Tryz.f13) (rfX Tryz.f13) (rfY Tryz.f13) 85 [.pointer (some ⟨b1, 0, none⟩), .pointer (some ⟨b2, 0, none⟩)] (fun u' m' => BoxL 49 34 1 b mr ((denL Q (vecL F ss F.length)).map nmV) m') (by kernel_rfl) (by kernel_rfl) (by kernel_rfl) Tryz.call85 ?_ ?_
  · intro l r r1 r2 r3 r4 r5 r6 r7 hl1 hl2
    have hbl : b ≠ l := fun e => by subst e; rw [upd_same] at hl1; cases hl1
    have hpl : bp ≠ l := fun e => by subst e; rw [upd_ne _ _ (fun e => hbb e.symm), hbp] at hl1; cases hl1
    have hmrl : mr l = none := by rw [hmr]; exact blk1_ne _ (fun e => hpl e.symm)
    have hps : r.params = #[46, 47] := r3.trans (by kernel_rfl)
    have hn : r.tmps.size = 59 := r6.trans (by kernel_rfl)
    have ht4 : r.tmps[4]? = some (.pointer (some ⟨bp, 0, none⟩)) := r7 4 _ (by kernel_rfl)
    have ht10 : r.tmps[10]? = some (.pointer (some ⟨b, 0, none⟩)) := r7 10 _ (by kernel_rfl)
    have hml : ∀ {es : List Value} {m' : PH}, BoxL 49 34 1 b (mr.upd l (.loop r)) es m' → m' l = some (.loop r) := fun h => h.see hbl (upd_same _ _ _)
    refine Contract.weak (entries1 (hor.mono (le5.trans l8)) e1 e2 (fun L u' m' => PH.le u8 u' ∧ BoxL 49 34 1 b (mr.upd l (.loop r)) ((denL Q L).map nmV) m') (fun _ _ _ _ hl h => ⟨h.1.trans hl, h.2⟩) (fun i x u' m' hi hl hJ hx hxi => ?_) ?_) ?_
    · obtain ⟨hJl, hJ⟩ := hJ
      have hxQ := hin x hx
      obtain ⟨k, hk, hkx⟩ := List.getElem_of_mem hxQ
      have hkx' : Q[k]? = some x.1 := by rw [List.getElem?_eq_getElem hk, hkx]
      have hxn : x.1 ∉ (vecL F ss i).map (·.1) := fun hm => by
        obtain ⟨y, hy, hye⟩ := List.mem_map.1 hm
        obtain ⟨j, f, hj, _, hv⟩ := mem_vecL.1 hy
        have := vecO_key hv
        rw [hye] at this
        omega
      refine yieldC_of (n := 59) (T := [(4, .pointer (some ⟨bp, 0, none⟩)), (10, .pointer (some ⟨b, 0, none⟩)), (46, parV x.1), (47, .string (mkS (ratT x.2)))]) (hml hJ) r1 r2 (by rw [hps]; rfl) hn (fun y hy => ?_) ?_
      · rw [hps, two_params]
        simp only [List.mem_cons, List.not_mem_nil, or_false] at hy
        rcases hy with rfl | rfl | rfl | rfl
        · rw [Array.getElem?_setIfInBounds_ne (by simp), Array.getElem?_setIfInBounds_ne (by simp)]; exact ht4
        · rw [Array.getElem?_setIfInBounds_ne (by simp), Array.getElem?_setIfInBounds_ne (by simp)]; exact ht10
        · rw [Array.getElem?_setIfInBounds_ne (by simp)]; simp [hn]
        · simp [hn]
      · rw [r4, r5]
        refine RW.seq' (by kernel_rfl) (RW.reg' Tryz.f13 (by kernel_rfl) fun Post J' hJ' => ?_)
        refine G.back (by kernel_rfl) (hJ' _ _ _ (RW.reg' Tryz.f13 (by kernel_rfl) fun Post J2 hJ2 => ?_))
        have hJb := hJ.base (o := .loop (busy r)) hbl (by rw [upd_same]; simp)
        rw [upd_upd] at hJb
        have hpm : (m'.upd l (.loop (busy r))) bp = some (.cells [Value.slice pa Q.length pc].toArray 41 (0, 0)) := hJb.see hbb.symm.symm (by rw [upd_ne _ _ hpl]; exact hmp)
        obtain ⟨a, c, hA⟩ := hJb
        have hbs : ∀ {n c' : Nat} {a' : Option Addr}, ((mr.upd l (.loop (busy r))).upd b (.cells #[.slice a' n c'] 49 (0, 0))) b = some (.cells [Value.slice a' n c'].toArray 49 (0, 0)) := upd_same _ _ _
        refine G.back (by kernel_rfl) (hJ2 _ _ _ ⟨hml hJ, RW.block' (by kernel_rfl) (RW.seq' (by kernel_rfl) (RW.reg' Tryz.f13 (by kernel_rfl) fun Post J3 hJ3 => ?_))⟩)
        refine G.loadM none bp 0 (.slice pa Q.length pc) (by kernel_rfl) (by kernel_rfl) (elP_of (xs := [.slice pa Q.length pc]) hpm rfl) ?_
        refine G.call0 _ _ (by kernel_rfl) Tryz.call45 (pIndex0 (hQ.mono ((le5.trans l8).trans hJl)) hkx' (fun j hj hjx => ?_) (by omega)) ?_
        · have := nodup_at hnd hjx hkx'
          omega
        rintro v9 u9 l9 rfl
        refine G.back (by kernel_rfl) (hJ3 _ _ _ (RW.seq' (by kernel_rfl) (RW.seq' (by kernel_rfl) (RW.reg' Tryz.f13 (by kernel_rfl) fun Post J4 hJ4 => ?_))))
        refine G.lssF (k : Int) 0 (by kernel_rfl) (by omega) ?_
        refine G.back (by kernel_rfl) (hJ4 _ _ _ (RW.condF' (by kernel_rfl) (by kernel_rfl) (RW.skip' (by kernel_rfl) ?_)))
        refine RW.reg' Tryz.f13 (by kernel_rfl) fun Post J5 hJ5 => ?_
        refine G.loadM none b 0 (.slice a ((denL Q (vecL F ss i)).map nmV).length c) (by kernel_rfl) (by kernel_rfl) (elP_of (xs := [.slice a ((denL Q (vecL F ss i)).map nmV).length c]) (hA.see hbs) rfl) ?_
        obtain ⟨g, c', hgc⟩ := hA.ptr (by unfold denL; simp)
        cases hgc
        refine G.add (k : Int) 1 ((k + 1 : Nat) : Int) (by kernel_rfl) (by omega) (by omega) (by omega) ?_
        have hlen : ((denL Q (vecL F ss i)).map nmV).length = Q.length + 1 := by rw [List.length_map, denL_len]
        refine G.addr g 0 ((denL Q (vecL F ss i)).map nmV).length c (k + 1) 1 (by kernel_rfl) (by omega) ?_
        refine G.storeA 1 _ ((denL Q (vecL F ss i)).map nmV) g ((denL Q (vecL F ss i)).map nmV).length c (k + 1) (.string (mkS (ratT x.2))) (by kernel_rfl) hA (by omega) rfl rfl ?_
        intro m10 hA10
        have hset : ((denL Q (vecL F ss i)).map nmV).set (k + 1) (.string (mkS (ratT x.2))) = (denL Q (vecL F ss i ++ [x])).map nmV := by
          rw [← denL_snoc hkx' hnd hxn, List.map_set]; rfl
        have hl2 : ((denL Q (vecL F ss i)).map nmV).length = ((denL Q (vecL F ss i ++ [x])).map nmV).length := by simp [denL_len]
        rw [hset, hl2] at hA10
        have hB : BoxL 49 34 1 b (mr.upd l (.loop (busy r))) ((denL Q (vecL F ss i ++ [x])).map nmV) m10 := ⟨_, _, hA10⟩
        refine G.back (by kernel_rfl) (hJ5 _ _ _ ⟨hB.see hbl (upd_same _ _ _), hJl.trans l9, ?_⟩)
        have hB2 := hB.base (o := .loop r) hbl (by rw [upd_same]; simp)
        rw [upd_upd] at hB2
        exact hB2
    · refine ⟨PH.le_refl _, ?_⟩
      obtain ⟨a, c, h⟩ := hB0
      refine ⟨a, c, ?_⟩
      rw [upd_comm _ _ _ (fun e => hbl e.symm)]
      exact h.fresh hl1
    · rintro v' u' m' ⟨_, hJ⟩
      refine ⟨r, by rw [r1]; simp, r2, hml hJ, m'.del l, del_le _ _, del_at _ _, ?_⟩
      obtain ⟨a, c, hA⟩ := hJ
      have := hA.del (l := l) (by rw [upd_ne _ _ (fun e => hbl e.symm), upd_same]; simp)
      rw [del_upd hbl, del_upd_same hmrl] at this
      exact ⟨a, c, this⟩
  · rintro u9 m9 l9 ⟨a, c, hA⟩
    refine G.giveP (ma := m9) (sm := PH.mt) (by kernel_rfl) (by funext g; unfold PH.or; cases m9 g <;> rfl) (fun g => .inr rfl) (fun g => .inl rfl) ?_
    intro u10 l10 hm10
    have hb10 : m9 b = some (.cells [Value.slice a ((denL Q (vecL F ss F.length)).map nmV).length c].toArray 49 (0, 0)) := hA.see (upd_same _ _ _)
    refine G.loadU none b 0 (.slice a ((denL Q (vecL F ss F.length)).map nmV).length c) (by kernel_rfl) (by kernel_rfl) ((elP_of (xs := [.slice a ((denL Q (vecL F ss F.length)).map nmV).length c]) hb10 rfl).mono hm10) ?_
    exact G.ret (.tuple #[.slice a ((denL Q (vecL F ss F.length)).map nmV).length c, .int .i64 0]) (by kernel_rfl) ⟨rfl, _, rfl, hA.list hm10⟩
end Go.Proofs.YtpdboaedoimahaaGreatDoor
end
section
set_option linter.unusedSectionVars false
set_option linter.unusedVariables false
namespace Go.Proofs.YtpdboaedoimahaaGreatDoor
open Go.RowKit Go.MapKept
set_option maxHeartbeats 1000000 in
theorem refTerms0 {u : PH} {v v' : Value} {T : List (Par × Rat)} (h : ListP u v 3 (T.map termV)) (h' : ListP u v' 3 (T.map termV)) (hl : T.length ≤ 1000000) :
    Fn0 Tryz.prog 21 [v, v'] u fun r _ => r = .bool true := by
  obtain ⟨a, c, rfl⟩ := h.opn
  obtain ⟨a', c', rfl⟩ := h'.opn
  rw [List.length_map] at h h' ⊢
  refine Fn0.of Tryz.func21 (by kernel_rfl) (by kernel_rfl) ?_
  refine G.neqF (T.length : Int) (T.length : Int) (by kernel_rfl) (by omega) ?_
  refine G.loop (ι := Nat) (fun i => [(0, .v (.slice a T.length c)), (1, .v (.slice a' T.length c')), (12, .v (.int .i64 (T.length : Int))), (13, .v (.int .i64 (i : Int)))]) (fun _ => [])
    (fun i u' m' => i ≤ T.length ∧ m' = PH.mt) (fun i => T.length - i) 0 (by kernel_rfl) (fun _ => by kernel_rfl) ⟨by kernel_rfl, by kernel_rfl, by kernel_rfl⟩ ⟨by omega, rfl⟩ ?_
  rintro J i hJ u1 m1 l1 ⟨hi, rfl⟩
  by_cases hlt : i < T.length
  · refine G.lssT (i : Int) (T.length : Int) (by kernel_rfl) (by omega) ?_
    have hTi : T[i]? = some T[i] := List.getElem?_eq_getElem hlt
    obtain ⟨ba, oa, rfl, ea⟩ := ListP.at' (h.mono l1) (j := i) (e := termV T[i]) (by simp [hTi])
    obtain ⟨bb, ob, rfl, eb⟩ := ListP.at' (h'.mono l1) (j := i) (e := termV T[i]) (by simp [hTi])
    refine G.addr ba oa T.length c i 3 (by kernel_rfl) (by omega) ?_
    refine G.loadU (some 3) ba (oa + i * 3) (termV T[i]) (by kernel_rfl) (by kernel_rfl) ea ?_
    refine G.addr bb ob T.length c' i 3 (by kernel_rfl) (by omega) ?_
    refine G.loadU (some 3) bb (ob + i * 3) (termV T[i]) (by kernel_rfl) (by kernel_rfl) eb ?_
    refine G.neAgg 57 #[.int .i64 T[i].1.1, .string (mkS T[i].1.2), .string (mkS (ratT T[i].2))] #[.int .i64 T[i].1.1, .string (mkS T[i].1.2), .string (mkS (ratT T[i].2))] true (by kernel_rfl) (by kernel_rfl) (by kernel_rfl) (eqTerm T[i]) ?_
    refine G.add (i : Int) 1 ((i + 1 : Nat) : Int) (by kernel_rfl) (by omega) (by omega) (by omega) ?_
    exact G.back (by kernel_rfl) (hJ (i + 1) _ _ _ ⟨by kernel_rfl, by kernel_rfl, by kernel_rfl⟩ l1 ⟨by omega, rfl⟩ (by omega))
  · obtain rfl : i = T.length := by omega
    refine G.lssF (T.length : Int) (T.length : Int) (by kernel_rfl) (by omega) ?_
    exact G.ret (.bool true) (by kernel_rfl) ⟨rfl, rfl⟩
def s12T : List (List UInt8 × Nat) := [([120], 2), ([99], 3)]
def s12R (g : Nat) : List SRel := [([114], [0, 1], (some ⟨g, 0, none⟩, 2))]
def s12F : List Feat := [(0, 1, 0), (1, 2, 0)]
def s12S : List (List UInt8) := [[50], [114, 101, 100]]
theorem s12OK {u : PH} {g : Nat} (h : ListP u (.slice (some ⟨g, 0, none⟩) 2 2) 1 (intsV [0, 1])) : SchOK u s12T (s12R g) s12F (-1) where
  att := ⟨names_of (by decide +kernel), fun a ha => by simp [s12T] at ha; rcases ha with rfl | rfl <;> decide⟩
  rel := ⟨names_of (by show (([[114]] : List (List UInt8)).all wordB && decide ([[114]] : List (List UInt8)).Nodup) = true; decide +kernel), fun r hr => by simp [s12R] at hr; subst hr; simp, fun r hr a ha => by simp [s12R] at hr; subst hr; simp at ha; show a < 2; omega, fun r hr => by simp [s12R] at hr; subst hr; simp, fun r hr k x y h1 h2 => by
    simp [s12R] at hr; subst hr
    match k, h1, h2 with
    | 0, h1, h2 => simp at h1 h2; omega
    | k + 1, h1, h2 => simp at h2, fun a ha => ⟨_, List.mem_singleton.2 rfl, by
    have : a < 2 := ha
    simp; omega⟩, fun r hr => by simp [s12R] at hr; subst hr; exact h⟩
  feat := ⟨fun f hf => by
    simp [s12F] at hf
    rcases hf with rfl | rfl
    · exact ⟨[120], 2, rfl, .inl ⟨rfl, rfl, by decide⟩, by decide⟩
    · exact ⟨[99], 3, rfl, .inr ⟨rfl, rfl, rfl⟩, by decide⟩, by decide⟩
  t1 := by decide
  t2 := by decide
  r1 := by show 0 < 1; omega
  r2 := by show 1 ≤ 6; omega
  f2 := by decide
  l1 := by decide
  l2 := fun l hl => by omega
theorem s12num : SmR (numT [50]) ∧ ratT (numT [50]) = [50] := numT_spec ⟨2, ⟨by decide +kernel, by decide +kernel⟩, by decide +kernel⟩
theorem s12tup : TupOK s12T s12S := ⟨rfl, fun i x t hx ht => by
  match i, hx, ht with
  | 0, hx, ht => cases hx; cases ht; exact .inr (.inr (.inr ⟨rfl, 2, ⟨by decide +kernel, by decide +kernel⟩, by decide +kernel⟩))
  | 1, hx, ht => cases hx; cases ht; exact .inr (.inl ⟨rfl, by decide +kernel⟩)
  | i + 2, hx, ht => simp [s12T] at hx⟩
theorem s12vec : vecL s12F s12S s12F.length = [(((0 : Int), []), numT [50]), (((1 : Int), [114, 101, 100]), 1)] := by
  show vecL s12F s12S 2 = _
  rw [vecL_succ (i := 1) (f := (1, 2, 0)) rfl, vecL_succ (i := 0) (f := (0, 1, 0)) rfl, vecL_zero]
  unfold vecO
  simp [s12S]
theorem s12cnt : cntB s12F (-1) s12S = true := by decide +kernel
set_option maxHeartbeats 4000000 in
theorem sane12 {u : PH} : Fn0 Tryz.prog 6 [] u fun r _ => r = .bool true := by
  refine Fn0.of Tryz.func6 (by kernel_rfl) (by kernel_rfl) ?_
  refine G.buildU 61 2 24 (.agg #[.string (mkS []), .int .i64 0]) [.agg #[.string (mkS [120]), .int .i64 ((2 : Nat) : Int)], .agg #[.string (mkS [99]), .int .i64 ((3 : Nat) : Int)]] (by kernel_rfl) (fun x hx => by
    simp only [List.mem_cons, List.not_mem_nil, or_false] at hx
    rcases hx with rfl | rfl <;> exact ⟨rfl, List.all_eq_true.1 rfl⟩) rfl (by omega) (by simp) (by simp) ?_
  intro g1 u1 l1 e1
  refine G.buildU 3 1 8 (.int .i64 0) [.int .i64 ((0 : Nat) : Int), .int .i64 ((1 : Nat) : Int)] (by kernel_rfl) (intsV_ok [0, 1]) rfl (by omega) (by simp) (by simp) ?_
  intro g2 u2 l2 e2
  refine G.buildU 74 2 40 (.agg #[.string (mkS []), .slice none 0 0]) [.agg #[.string (mkS [114]), .slice (some ⟨g2, 0, none⟩) 2 2]] (by kernel_rfl) (fun x hx => by
    simp only [List.mem_cons, List.not_mem_nil, or_false] at hx
    subst hx; exact ⟨rfl, List.all_eq_true.1 rfl⟩) rfl (by omega) (by simp) (by simp) ?_
  intro g3 u3 l3 e3
  refine G.buildU 64 3 24 (.agg #[.int .i64 0, .int .i64 0, .int .i64 0]) [.agg #[.int .i64 ((0 : Nat) : Int), .int .i64 ((1 : Nat) : Int), .int .i64 ((0 : Nat) : Int)], .agg #[.int .i64 ((1 : Nat) : Int), .int .i64 ((2 : Nat) : Int), .int .i64 ((0 : Nat) : Int)]] (by kernel_rfl) (fun x hx => by
    simp only [List.mem_cons, List.not_mem_nil, or_false] at hx
    rcases hx with rfl | rfl <;> exact ⟨rfl, List.all_eq_true.1 rfl⟩) rfl (by omega) (by simp) (by simp) ?_
  intro g4 u4 l4 e4
  have hsch : SchP u4 (.agg #[.slice (some ⟨g1, 0, none⟩) 2 2, .slice (some ⟨g3, 0, none⟩) 1 1, .slice (some ⟨g4, 0, none⟩) 2 2, .int .i64 (-1)]) s12T (s12R g2) s12F (-1) :=
    ⟨_, _, _, _, _, _, rfl, e1.listP.mono ((l2.trans l3).trans l4), e3.listP.mono l4, e4.listP⟩
  have hok : SchOK u4 s12T (s12R g2) s12F (-1) := s12OK (e2.listP.mono (l3.trans l4))
  refine G.buildU 9 1 16 (.string (mkS [])) [.string (mkS [50]), .string (mkS [114, 101, 100])] (by kernel_rfl) (nmV_ok [[50], [114, 101, 100]]) rfl (by omega) (by simp) (by simp) ?_
  intro g5 u5 l5 e5
  have hv := encVector0 ⟨hsch.mono l5, hok.mono l5, (e5.listP : ListP u5 _ 1 (s12S.map nmV)), s12tup⟩
  refine G.call0 _ _ (by kernel_rfl) Tryz.call14 hv ?_
  rintro v6 u6 l6 ⟨lv, rfl, hlv⟩
  rw [s12vec] at hlv
  obtain ⟨va, vc, rfl⟩ := hlv.opn
  refine G.buildU 55 2 24 (.agg #[.int .i64 0, .string (mkS [])]) [.agg #[.int .i64 0, .string (mkS [])], .agg #[.int .i64 1, .string (mkS [114, 101, 100])]] (by kernel_rfl) (fun x hx => by
    simp only [List.mem_cons, List.not_mem_nil, or_false] at hx
    rcases hx with rfl | rfl <;> exact ⟨rfl, List.all_eq_true.1 rfl⟩) rfl (by omega) (by simp) (by simp) ?_
  intro g7 u7 l7 e7
  refine G.buildU 9 1 16 (.string (mkS [])) [.string (mkS [50]), .string (mkS [114, 101, 100])] (by kernel_rfl) (nmV_ok [[50], [114, 101, 100]]) rfl (by omega) (by simp) (by simp) ?_
  intro g8 u8 l8 e8
  have le8 : PH.le u4 u8 := ((l5.trans l6).trans l7).trans l8
  have hd := encDense0 (Q := [((0 : Int), []), ((1 : Int), [114, 101, 100])]) ⟨hsch.mono le8, hok.mono le8, (e8.listP : ListP u8 _ 1 (s12S.map nmV)), s12tup⟩ ((e7.listP).mono l8) (by unfold SortK; decide +kernel) (fun x hx => by
    rw [s12vec] at hx
    simp only [List.mem_cons, List.not_mem_nil, or_false] at hx
    rcases hx with rfl | rfl <;> simp) (by simp)
  refine G.call0 _ _ (by kernel_rfl) Tryz.call13 hd ?_
  rintro v9 u9 l9 ⟨ld, rfl, hld⟩
  rw [s12vec] at hld
  have hden : denL [((0 : Int), []), ((1 : Int), [114, 101, 100])] [(((0 : Int), []), numT [50]), (((1 : Int), [114, 101, 100]), 1)] = [[49], [50], [49]] := by
    unfold denL
    simp only [List.map_cons, List.map_nil, assocQ]
    simp [s12num.2, ratT_one]
  rw [hden] at hld
  obtain ⟨da, dc, rfl⟩ := hld.opn
  refine G.eqlT 0 0 (by kernel_rfl) (by omega) ?_
  refine G.buildU 57 3 40 (.agg #[.int .i64 0, .string (mkS []), .string (mkS [])]) [.agg #[.int .i64 0, .string (mkS []), .string (mkS [50])], .agg #[.int .i64 1, .string (mkS [114, 101, 100]), .string (mkS [49])]] (by kernel_rfl) (fun x hx => by
    simp only [List.mem_cons, List.not_mem_nil, or_false] at hx
    rcases hx with rfl | rfl <;> exact ⟨rfl, List.all_eq_true.1 rfl⟩) rfl (by omega) (by simp) (by simp) ?_
  intro g10 u10 l10 e10
  have hterm : [Value.agg #[.int .i64 0, .string (mkS []), .string (mkS [50])], .agg #[.int .i64 1, .string (mkS [114, 101, 100]), .string (mkS [49])]] = ([(((0 : Int), []), numT [50]), (((1 : Int), [114, 101, 100]), 1)] : List (Par × Rat)).map termV := by
    simp [termV, s12num.2, ratT_one]
  have e10' := e10.listP
  rw [hterm] at e10'
  refine G.call0 _ _ (by kernel_rfl) Tryz.call21 (refTerms0 (hlv.mono ((((l7.trans l8).trans l9).trans l10))) e10' (by simp)) ?_
  rintro v11 u11 l11 rfl
  refine G.eqlT 0 0 (by kernel_rfl) (by omega) ?_
  refine G.buildU 34 1 16 (.string (mkS [])) [.string (mkS [49]), .string (mkS [50]), .string (mkS [49])] (by kernel_rfl) (strsV_ok [[49], [50], [49]]) rfl (by omega) (by simp) (by simp) ?_
  intro g12 u12 l12 e12
  refine G.call0 _ _ (by kernel_rfl) Tryz.call22 (refSame0 (ts := [[49], [50], [49]]) (ts' := [[49], [50], [49]]) (hld.mono ((l10.trans l11).trans l12)) e12.listP (by simp) (by simp)) ?_
  rintro v13 u13 l13 rfl
  refine G.buildU 9 1 16 (.string (mkS [])) [.string (mkS [50]), .string (mkS [114, 101, 100])] (by kernel_rfl) (nmV_ok [[50], [114, 101, 100]]) rfl (by omega) (by simp) (by simp) ?_
  intro g14 u14 l14 e14
  have le14 : PH.le u4 u14 := ((((((le8.trans l9).trans l10).trans l11).trans l12).trans l13).trans l14)
  refine G.call0 _ _ (by kernel_rfl) Tryz.call12 (encCounts0 ⟨hsch.mono le14, hok.mono le14, (e14.listP : ListP u14 _ 1 (s12S.map nmV)), s12tup⟩) ?_
  rintro v15 u15 l15 rfl
  rw [s12cnt]
  exact G.ret (.bool true) (by kernel_rfl) ⟨rfl, rfl⟩
end Go.Proofs.YtpdboaedoimahaaGreatDoor
end
section
set_option linter.unusedSectionVars false
set_option linter.unusedVariables false
namespace Go.Proofs.YtpdboaedoimahaaGreatDoor
open Go.RowKit Go.MapKept
set_option maxHeartbeats 4000000 in
theorem refSameC0 {u : PH} {v v' : Value} {F : CF} {K K' : Nat} (h : CofP u v F K) (h' : CofP u v' F K') (hK : K ≤ 1000000) : Fn0 Tryz.prog 19 [v, v'] u fun r _ => r = .bool true := by
  obtain ⟨T, Q, a1, c1, a2, c2, rfl, hT, hQ, cT, cQ, kT, kQ⟩ := h
  obtain ⟨T', Q', b1, d1, b2, d2, rfl, hT', hQ', cT', cQ', kT', kQ'⟩ := h'
  obtain rfl : T' = T := cT'.ext ordP cT
  obtain rfl : Q' = Q := cQ'.ext ordQ cQ
  refine Fn0.of Tryz.func19 (by kernel_rfl) (by kernel_rfl) ?_
  refine G.neSF (ratT F.c) (ratT F.c) (by kernel_rfl) rfl ?_
  refine G.neqF (T'.length : Int) (T'.length : Int) (by kernel_rfl) (by omega) ?_
  refine G.neqF (Q'.length : Int) (Q'.length : Int) (by kernel_rfl) (by omega) ?_
  refine G.loop (ι := Nat) (fun i => [(2, .p 0 0), (3, .p 1 0), (32, .v (.int .i64 (T'.length : Int))), (33, .v (.int .i64 (i : Int)))])
    (fun _ => [(0, ⟨38, [.v (.string (mkS (ratT F.c))), .v (.slice a1 T'.length c1), .v (.slice a2 Q'.length c2)]⟩), (1, ⟨38, [.v (.string (mkS (ratT F.c))), .v (.slice b1 T'.length d1), .v (.slice b2 Q'.length d2)]⟩)])
    (fun i u' m' => i ≤ T'.length ∧ m' = PH.mt) (fun i => T'.length - i) 0 (by kernel_rfl) (fun _ => by kernel_rfl) ⟨by kernel_rfl, by kernel_rfl, by kernel_rfl⟩ ⟨by omega, rfl⟩ ?_
  rintro J i hJ u1 m1 l1 ⟨hi, rfl⟩
  by_cases hlt : i < T'.length
  · refine G.lssT (i : Int) (T'.length : Int) (by kernel_rfl) (by omega) ?_
    have hTi : T'[i]? = some T'[i] := List.getElem?_eq_getElem hlt
    obtain ⟨ba, oa, rfl, ea⟩ := ListP.at' (hT.mono l1) (j := i) (e := termV T'[i]) (by simp [hTi])
    obtain ⟨bb, ob, rfl, eb⟩ := ListP.at' (hT'.mono l1) (j := i) (e := termV T'[i]) (by simp [hTi])
    refine G.addr ba oa T'.length c1 i 3 (by kernel_rfl) (by omega) ?_
    refine G.loadU (some 3) ba (oa + i * 3) (termV T'[i]) (by kernel_rfl) (by kernel_rfl) ea ?_
    refine G.addr bb ob T'.length d1 i 3 (by kernel_rfl) (by omega) ?_
    refine G.loadU (some 3) bb (ob + i * 3) (termV T'[i]) (by kernel_rfl) (by kernel_rfl) eb ?_
    refine G.neAgg 57 #[.int .i64 T'[i].1.1, .string (mkS T'[i].1.2), .string (mkS (ratT T'[i].2))] #[.int .i64 T'[i].1.1, .string (mkS T'[i].1.2), .string (mkS (ratT T'[i].2))] true (by kernel_rfl) (by kernel_rfl) (by kernel_rfl) (eqTerm T'[i]) ?_
    refine G.add (i : Int) 1 ((i + 1 : Nat) : Int) (by kernel_rfl) (by omega) (by omega) (by omega) ?_
    exact G.back (by kernel_rfl) (hJ (i + 1) _ _ _ ⟨by kernel_rfl, by kernel_rfl, by kernel_rfl⟩ l1 ⟨by omega, rfl⟩ (by omega))
  obtain rfl : i = T'.length := by omega
  refine G.lssF (T'.length : Int) (T'.length : Int) (by kernel_rfl) (by omega) ?_
  clear hJ
  refine G.loop (ι := Nat) (fun i => [(2, .p 0 0), (3, .p 1 0), (50, .v (.int .i64 (Q'.length : Int))), (51, .v (.int .i64 (i : Int)))])
    (fun _ => [(0, ⟨38, [.v (.string (mkS (ratT F.c))), .v (.slice a1 T'.length c1), .v (.slice a2 Q'.length c2)]⟩), (1, ⟨38, [.v (.string (mkS (ratT F.c))), .v (.slice b1 T'.length d1), .v (.slice b2 Q'.length d2)]⟩)])
    (fun i u' m' => i ≤ Q'.length ∧ m' = PH.mt) (fun i => Q'.length - i) 0 (by kernel_rfl) (fun _ => by kernel_rfl) ⟨by kernel_rfl, by kernel_rfl, by kernel_rfl⟩ ⟨by omega, rfl⟩ ?_
  rintro J i hJ u2 m2 l2 ⟨hi, rfl⟩
  by_cases hlt : i < Q'.length
  · refine G.lssT (i : Int) (Q'.length : Int) (by kernel_rfl) (by omega) ?_
    have hTi : Q'[i]? = some Q'[i] := List.getElem?_eq_getElem hlt
    obtain ⟨ba, oa, rfl, ea⟩ := ListP.at' (hQ.mono (l1.trans l2)) (j := i) (e := prtV Q'[i]) (by simp [hTi])
    obtain ⟨bb, ob, rfl, eb⟩ := ListP.at' (hQ'.mono (l1.trans l2)) (j := i) (e := prtV Q'[i]) (by simp [hTi])
    refine G.addr ba oa Q'.length c2 i 5 (by kernel_rfl) (by omega) ?_
    refine G.loadU (some 5) ba (oa + i * 5) (prtV Q'[i]) (by kernel_rfl) (by kernel_rfl) ea ?_
    refine G.addr bb ob Q'.length d2 i 5 (by kernel_rfl) (by omega) ?_
    refine G.loadU (some 5) bb (ob + i * 5) (prtV Q'[i]) (by kernel_rfl) (by kernel_rfl) eb ?_
    refine G.neAgg 119 #[.int .i64 Q'[i].1.1.1, .string (mkS Q'[i].1.1.2), .int .i64 Q'[i].1.2.1, .string (mkS Q'[i].1.2.2), .string (mkS (ratT Q'[i].2))] #[.int .i64 Q'[i].1.1.1, .string (mkS Q'[i].1.1.2), .int .i64 Q'[i].1.2.1, .string (mkS Q'[i].1.2.2), .string (mkS (ratT Q'[i].2))] true (by kernel_rfl) (by kernel_rfl) (by kernel_rfl) (eqPairT Q'[i]) ?_
    refine G.add (i : Int) 1 ((i + 1 : Nat) : Int) (by kernel_rfl) (by omega) (by omega) (by omega) ?_
    exact G.back (by kernel_rfl) (hJ (i + 1) _ _ _ ⟨by kernel_rfl, by kernel_rfl, by kernel_rfl⟩ l2 ⟨by omega, rfl⟩ (by omega))
  obtain rfl : i = Q'.length := by omega
  refine G.lssF (Q'.length : Int) (Q'.length : Int) (by kernel_rfl) (by omega) ?_
  exact G.ret (.bool true) (by kernel_rfl) ⟨rfl, rfl⟩
theorem refZero10 {u : PH} : Fn0 Tryz.prog 20 [] u fun r _ => r = .agg #[.string (mkS (ratT 0)), .slice none 0 0, .slice none 0 0] := by
  refine Fn0.of Tryz.func20 (by kernel_rfl) (by kernel_rfl) ?_
  exact G.ret (.agg #[.string (mkS (ratT 0)), .slice none 0 0, .slice none 0 0]) (by kernel_rfl) ⟨rfl, rfl⟩
end Go.Proofs.YtpdboaedoimahaaGreatDoor
end
section
set_option linter.unusedSectionVars false
set_option linter.unusedVariables false
namespace Go.Proofs.YtpdboaedoimahaaGreatDoor
open Go.RowKit Go.MapKept
theorem Src.h0or (s : Src) (k k' : Nat) (n0 : PH) (g : Nat) : s.M k g = none ∨ (n0.or (s.M k')) g ≠ none := by
  rcases s.h0 k k' g with e | e
  · exact .inl e
  · right
    intro h
    cases hx : n0 g with
    | some o => rw [PH.or_l hx] at h; cases h
    | none => rw [PH.or_r hx] at h; exact e h
theorem bag_off {m : PH} {a b c d : Arr} (h : Bag m [a, b, c, d]) : Bag m [a, c, d] := by
  have h1 : Bag m [a, c, d, b] := Bag.perm (List.Perm.cons a ((List.Perm.swap c b [d]).trans (List.Perm.cons c (List.Perm.swap d b [])))) h
  obtain ⟨p0, q0, p1, q1, p2, q2, _⟩ := h1
  exact ⟨p0, q0, p1, q1, p2, q2, trivial⟩
theorem kinds4 {x : Int} (h : x ∈ [1, 2, 2, (3 : Int)]) : ∃ n : Nat, x = (n : Int) ∧ 1 ≤ n ∧ n ≤ 3 := by
  simp at h
  rcases h with rfl | rfl | rfl
  · exact ⟨1, rfl, by omega, by omega⟩
  · exact ⟨2, rfl, by omega, by omega⟩
  · exact ⟨3, rfl, by omega, by omega⟩
set_option maxHeartbeats 8000000 in
theorem srcSchema0 {u : PH} {s : Src} {ts : List Int} {k : Nat} (most : Nat) (hm1 : 1 ≤ most) (hm6 : most ≤ 6) (h : SrcOK u s ts) (hk : k ≤ s.n) :
    Contract Tryz.prog 8 [s.ptr, .int .i64 (most : Int)] u (s.M k) fun v u' m' => ∃ (T : List (List UInt8 × Nat)) (R : List SRel) (F : List Feat) (lab : Int) (k' : Nat), SchP u' v T R F lab ∧ SchOK u' T R F lab ∧ T.length ≤ 6 ∧ k' ≤ s.n ∧ m' = s.M k' := by
  refine Contract.of Tryz.func8 (by kernel_rfl) (by kernel_rfl) ?_
  refine G.callA _ _ (by kernel_rfl) (by kernel_rfl) Tryz.call23 (mt_or _).symm (apart_mt _) (srcRange0 (lo := 1) (hi := 3) (n := 3) h hk (by omega) (by omega) (by omega) (by omega) (by omega)) ?_
  rintro v1 u1 m1 l1 ⟨r, k1, rfl, hr, hk1, rfl⟩ _
  rw [mt_or]
  obtain ⟨n, hn⟩ : ∃ n : Nat, (1 : Int) + (r : Int) = (n : Int) := ⟨1 + r, by omega⟩
  rw [hn]
  refine G.loop (ι := Nat × Nat × List (List UInt8 × Nat) × (Option Addr × Nat) × List SRel × (Option Addr × Nat)) (fun i => [(0, .v s.ptr), (1, .v (.int .i64 (most : Int))), (4, .p 0 0), (5, .p 1001 0), (6, .v (.int .i64 (n : Int))), (7, .v (.int .i64 (i.1 : Int)))])
    (fun i => [(0, ⟨30, [.v (.slice none 0 0), .v (.slice none 0 0), .v (.slice none 0 0), .v (.int .i64 0)]⟩), (1001, ⟨30, [.v (.slice i.2.2.2.1.1 i.2.2.1.length i.2.2.2.1.2), .v (.slice i.2.2.2.2.2.1 i.2.2.2.2.1.length i.2.2.2.2.2.2), .v (.slice none 0 0), .v (.int .i64 (-1))]⟩)])
    (fun i u' m' => i.1 ≤ n ∧ i.2.1 ≤ s.n ∧ TOK i.2.2.1 ∧ ROK u' i.2.2.1.length i.2.2.2.2.1 ∧ i.2.2.2.2.1.length = i.1 ∧ (0 < i.1 → 0 < i.2.2.1.length) ∧ Bag m' [s.arr i.2.1, aArr i.2.2.2.1.1 i.2.2.2.1.2 i.2.2.1, rArr i.2.2.2.2.2.1 i.2.2.2.2.2.2 i.2.2.2.2.1])
    (fun i => n - i.1) (0, k1, [], (none, 0), [], (none, 0)) (by kernel_rfl) (fun _ => by kernel_rfl) ⟨by kernel_rfl, by kernel_rfl, by kernel_rfl⟩
    ⟨Nat.zero_le _, hk1, TOK.nil, ROK.nil, rfl, fun h => absurd h (by simp), s.bag0 k1 ⟨PH.mt, ArrAt.nil _ _ _, PH.mt, ArrAt.nil _ _ _, trivial⟩⟩ ?_
  rintro J ⟨i, k2, T, ⟨ta, tc⟩, R, ⟨ra, rc⟩⟩ hJ u2 m2 l2 ⟨hi, hk2, hT, hR, hRl, h0, hbag⟩
  simp only at hi hk2 hT hR hRl h0 hbag hJ
  subst hRl
  have le2 := l1.trans l2
  have hT6 := hT.le
  by_cases hlt : R.length < n
  · refine G.lssT (R.length : Int) (n : Int) (by kernel_rfl) (by omega) ?_
    refine G.loop (ι := Nat × Nat × List Nat × (Option Addr × Nat)) (fun i => [(0, .v s.ptr), (1, .v (.int .i64 (most : Int))), (4, .p 0 0), (5, .p 1001 0), (6, .v (.int .i64 (n : Int))), (7, .v (.int .i64 (R.length : Int))), (8, .v (.slice i.2.2.2.1 i.2.2.1.length i.2.2.2.2)), (23, .v (.int .i64 (T.length : Int))), (24, .v (.int .i64 (i.1 : Int)))])
      (fun i => [(0, ⟨30, [.v (.slice none 0 0), .v (.slice none 0 0), .v (.slice none 0 0), .v (.int .i64 0)]⟩), (1001, ⟨30, [.v (.slice ta T.length tc), .v (.slice ra R.length rc), .v (.slice none 0 0), .v (.int .i64 (-1))]⟩)])
      (fun i u' m' => i.1 ≤ T.length ∧ i.2.1 ≤ s.n ∧ LOK i.2.2.1 i.1 ∧ Bag m' [s.arr i.2.1, iArr i.2.2.2.1 i.2.2.2.2 i.2.2.1, aArr ta tc T, rArr ra rc R])
      (fun i => T.length - i.1) (0, k2, [], (none, 0)) (by kernel_rfl) (fun _ => by kernel_rfl) ⟨by kernel_rfl, by kernel_rfl, by kernel_rfl⟩
      ⟨Nat.zero_le _, hk2, LOK.nil, by obtain ⟨m0, hs0, hL⟩ := hbag; exact ⟨m0, hs0, m0, ArrAt.nil _ _ _, hL⟩⟩ ?_
    rintro J1 ⟨j, k3, l, ⟨la, lc⟩⟩ hJ1 u3 m3 l3 ⟨hj, hk3, hl, hbag3⟩
    simp only at hj hk3 hl hbag3 hJ1
    have hll := hl.len
    by_cases hltj : j < T.length
    · refine G.lssT (j : Int) (T.length : Int) (by kernel_rfl) (by omega) ?_
      obtain ⟨n4, hsrc4, hL4⟩ := hbag3
      obtain ⟨rfl, hg4⟩ := Src.split hsrc4
      refine G.callA _ _ (by kernel_rfl) (by kernel_rfl) Tryz.call24 rfl (Src.apart hg4) (srcN0 (n := 3) (h.mono (le2.trans l3)) hk3 (by omega) (by omega)) ?_
      rintro v4 u4 m4 l4 ⟨r4, k4, rfl, hr4, hk4, rfl⟩ _
      have hbag4 : Bag _ [s.arr k4, iArr la lc l, aArr ta tc T, rArr ra rc R] := ⟨_, Src.at hg4, hL4⟩
      by_cases hr0 : r4 = 0
      · refine G.eqlT (r4 : Int) 0 (by kernel_rfl) (by omega) ?_
        refine G.buildU 3 1 8 (.int .i64 0) [.int .i64 (j : Int)] (by kernel_rfl) (intsV_ok [j]) rfl (by omega) (by simp) (by simp) ?_
        intro g6 u6 l6 e6
        obtain ⟨mm6, hx6, hput6⟩ := hbag4.focus 1 rfl
        rw [iArr_at] at hx6
        refine G.append 3 1 8 (.int .i64 0) mm6 (intsV l) [.int .i64 (j : Int)] (.slice la l.length lc) g6 0 1 1 (by kernel_rfl) rfl rfl (by omega) hx6 e6 (intsV_ok [j]) rfl (by omega) (by simp [intsV]; omega) (by simp [intsV]; omega) ?_
        intro w6 mn6 hy6
        rw [intsV_snoc] at hy6
        obtain ⟨a6, c6, rfl⟩ := hy6.shape
        rw [intsV_length] at hy6 ⊢
        have hbag6 := hput6 (iArr a6 c6 (l ++ [j])) mn6 hy6
        simp only [List.set_cons_succ, List.set_cons_zero] at hbag6
        refine G.add (j : Int) 1 ((j + 1 : Nat) : Int) (by kernel_rfl) (by omega) (by omega) (by omega) ?_
        exact G.back (by kernel_rfl) (hJ1 (j + 1, k4, l ++ [j], (a6, c6)) _ _ _ ⟨by kernel_rfl, by kernel_rfl, by kernel_rfl⟩ ((l3.trans l4).trans l6) ⟨by dsimp only; omega, hk4, hl.snoc, hbag6⟩ (by dsimp only; omega))
      · refine G.eqlF (r4 : Int) 0 (by kernel_rfl) (by omega) ?_
        refine G.add (j : Int) 1 ((j + 1 : Nat) : Int) (by kernel_rfl) (by omega) (by omega) (by omega) ?_
        exact G.back (by kernel_rfl) (hJ1 (j + 1, k4, l, (la, lc)) _ _ _ ⟨by kernel_rfl, by kernel_rfl, by kernel_rfl⟩ (l3.trans l4) ⟨by dsimp only; omega, hk4, hl.up, hbag4⟩ (by dsimp only; omega))
    · obtain rfl : j = T.length := by omega
      refine G.lssF (T.length : Int) (T.length : Int) (by kernel_rfl) (by omega) ?_
      obtain ⟨n4, hsrc4, hL4⟩ := hbag3
      obtain ⟨rfl, hg4⟩ := Src.split hsrc4
      refine G.callA _ _ (by kernel_rfl) (by kernel_rfl) Tryz.call24 rfl (Src.apart hg4) (srcN0 (n := 3) (h.mono (le2.trans l3)) hk3 (by omega) (by omega)) ?_
      rintro v4 u4 m4 l4 ⟨r4, k4, rfl, hr4, hk4, rfl⟩ _
      have hbag4 : Bag _ [s.arr k4, iArr la lc l, aArr ta tc T, rArr ra rc R] := ⟨_, Src.at hg4, hL4⟩
      refine G.loop (ι := Int × Nat × List Nat × (Option Addr × Nat) × List (List UInt8 × Nat) × (Option Addr × Nat)) (fun i => [(0, .v s.ptr), (1, .v (.int .i64 (most : Int))), (4, .p 0 0), (5, .p 1001 0), (6, .v (.int .i64 (n : Int))), (7, .v (.int .i64 (R.length : Int))), (8, .v (.slice i.2.2.2.1.1 i.2.2.1.length i.2.2.2.1.2)), (10, .v (.int .i64 i.1))])
        (fun i => [(0, ⟨30, [.v (.slice none 0 0), .v (.slice none 0 0), .v (.slice none 0 0), .v (.int .i64 0)]⟩), (1001, ⟨30, [.v (.slice i.2.2.2.2.2.1 i.2.2.2.2.1.length i.2.2.2.2.2.2), .v (.slice ra R.length rc), .v (.slice none 0 0), .v (.int .i64 (-1))]⟩)])
        (fun i u' m' => i.2.1 ≤ s.n ∧ (i.2.2.1 = [] → 0 ≤ i.1) ∧ -1 ≤ i.1 ∧ i.1 ≤ 2 ∧ T.length ≤ i.2.2.2.2.1.length ∧ TOK i.2.2.2.2.1 ∧ LOK i.2.2.1 i.2.2.2.2.1.length ∧ (∀ a, T.length ≤ a → a < i.2.2.2.2.1.length → a ∈ i.2.2.1) ∧ Bag m' [s.arr i.2.1, iArr i.2.2.2.1.1 i.2.2.2.1.2 i.2.2.1, aArr i.2.2.2.2.2.1 i.2.2.2.2.2.2 i.2.2.2.2.1, rArr ra rc R])
        (fun i => (i.1 + 1).toNat) ((r4 : Int), k4, l, (la, lc), T, (ta, tc)) (by kernel_rfl) (fun _ => by kernel_rfl) ⟨by kernel_rfl, by kernel_rfl, by kernel_rfl⟩
        ⟨hk4, fun _ => by dsimp only; omega, by dsimp only; omega, by dsimp only; omega, Nat.le_refl _, hT, hl, fun a h1 h2 => by dsimp only at h2; omega, hbag4⟩ ?_
      rintro J2 ⟨z, k5, l5, ⟨la5, lc5⟩, T5, ⟨ta5, tc5⟩⟩ hJ2 u5 m5 l5' ⟨hk5, hz0, hz1, hz2, hTle5, hT5, hl5, hall5, hbag5⟩
      simp only at hk5 hz0 hz1 hz2 hTle5 hT5 hl5 hall5 hbag5 hJ2
      have hT56 := hT5.le
      have hl56 := hl5.len
      have le5 := ((le2.trans l3).trans l4).trans l5'
      have lo5 := (l3.trans l4).trans l5'
      by_cases hz : 0 < z
      · refine G.gtrT z 0 (by kernel_rfl) (by omega) ?_
        by_cases hlen : T5.length < most
        · refine G.lssT (T5.length : Int) (most : Int) (by kernel_rfl) (by omega) ?_
          refine G.buildU 3 1 8 (.int .i64 0) [.int .i64 (T5.length : Int)] (by kernel_rfl) (intsV_ok [T5.length]) rfl (by omega) (by simp) (by simp) ?_
          intro g21 u21 l21 e21
          obtain ⟨mm21, hx21, hput21⟩ := hbag5.focus 1 rfl
          rw [iArr_at] at hx21
          refine G.append 3 1 8 (.int .i64 0) mm21 (intsV l5) [.int .i64 (T5.length : Int)] (.slice la5 l5.length lc5) g21 0 1 1 (by kernel_rfl) rfl rfl (by omega) hx21 e21 (intsV_ok [T5.length]) rfl (by omega) (by simp [intsV]; omega) (by simp [intsV]; omega) ?_
          intro w21 mn21 hy21
          rw [intsV_snoc] at hy21
          obtain ⟨a21, c21, rfl⟩ := hy21.shape
          rw [intsV_length] at hy21 ⊢
          have hbag21 := hput21 (iArr a21 c21 (l5 ++ [T5.length])) mn21 hy21
          simp only [List.set_cons_succ, List.set_cons_zero] at hbag21
          refine G.both [0, 1, 2, 3, 4, 6] 5 7 [8, 9, 10, 11, 12, 13] (by kernel_rfl) ?_ ?_
          · refine G.call0 _ _ (by kernel_rfl) Tryz.call25 (letter0 (p := [97]) (i := T5.length) (by omega) (by simp)) ?_
            rintro v22 u22 l22 rfl
            refine G.buildU 3 1 8 (.int .i64 0) [.int .i64 1, .int .i64 2, .int .i64 2, .int .i64 3] (by kernel_rfl) (intsZ_ok [1, 2, 2, 3]) rfl (by omega) (by simp) (by simp) ?_
            intro g23 u23 l23 e23
            have le23 := (((le5).trans l21).trans l22).trans l23
            have lq23 := l22.trans l23
            have e23p := e23.listP
            obtain ⟨n24, hsrc24, hL24⟩ := hbag21
            obtain ⟨rfl, hg24⟩ := Src.split hsrc24
            refine G.callA _ _ (by kernel_rfl) (by kernel_rfl) Tryz.call26 rfl (Src.apart hg24) (srcPick0 (L := [1, 2, 2, 3]) (h.mono le23) hk5 e23p (by simp) (by simp)) ?_
            rintro v24 u24 m24 l24 ⟨kd, hkd, k24, rfl, hk24, rfl⟩ _
            obtain ⟨kn, rfl, hkn1, hkn3⟩ := kinds4 hkd
            have hbag24 : Bag (n24.or (s.M k24)) [s.arr k24, iArr a21 c21 (l5 ++ [T5.length]), aArr ta5 tc5 T5, rArr ra rc R] := ⟨n24, Src.at hg24, hL24⟩
            refine G.buildU 61 2 24 (.agg #[.string (mkS []), .int .i64 0]) [.agg #[.string (mkS (nmA T5.length)), .int .i64 (kn : Int)]] (by kernel_rfl) (attV_ok (nmA T5.length, kn)) rfl (by omega) (by simp) (by simp) ?_
            intro g25 u25 l25 e25
            obtain ⟨mm25, hx25, hput25⟩ := hbag24.focus 2 rfl
            rw [aArr_at] at hx25
            refine G.append 61 2 24 (.agg #[.string (mkS []), .int .i64 0]) mm25 (T5.map attV) [.agg #[.string (mkS (nmA T5.length)), .int .i64 (kn : Int)]] (.slice ta5 T5.length tc5) g25 0 1 1 (by kernel_rfl) rfl rfl (by omega) hx25 e25 (attV_ok (nmA T5.length, kn)) rfl (by omega) (by simp [intsV]; omega) (by simp [intsV]; omega) ?_
            intro w25 mn25 hy25
            rw [show T5.map attV ++ [.agg #[.string (mkS (nmA T5.length)), .int .i64 (kn : Int)]] = (T5 ++ [(nmA T5.length, kn)]).map attV by rw [List.map_append]; rfl] at hy25
            obtain ⟨a25, c25, rfl⟩ := hy25.shape
            rw [List.length_map] at hy25 ⊢
            have hbag25 := hput25 (aArr a25 c25 (T5 ++ [(nmA T5.length, kn)])) mn25 hy25
            simp only [List.set_cons_succ, List.set_cons_zero] at hbag25
            refine G.sub z 1 (z - 1) (by kernel_rfl) (by omega) (by omega) (by omega) ?_
            exact G.back (by kernel_rfl) (hJ2 (z - 1, k24, l5 ++ [T5.length], (a21, c21), T5 ++ [(nmA T5.length, kn)], (a25, c25)) _ _ _ ⟨by kernel_rfl, by kernel_rfl, by kernel_rfl⟩ ((((l5'.trans l21).trans lq23).trans l24).trans l25) ⟨hk24, fun e => by simp at e, by dsimp only; omega, by dsimp only; omega, by dsimp only; rw [List.length_append]; omega, hT5.snoc hkn1 hkn3 (by omega), by dsimp only; rw [List.length_append]; exact hl5.snoc, fun a h1 h2 => by
              dsimp only at h2 ⊢
              rw [List.length_append, List.length_singleton] at h2
              rcases Nat.lt_or_ge a T5.length with e | e
              · exact List.mem_append_left _ (hall5 a h1 e)
              · exact List.mem_append_right _ (List.mem_singleton.2 (by omega)), hbag25⟩ (by dsimp only; omega))
          · refine G.buildU 3 1 8 (.int .i64 0) [.int .i64 1, .int .i64 2, .int .i64 2, .int .i64 3] (by kernel_rfl) (intsZ_ok [1, 2, 2, 3]) rfl (by omega) (by simp) (by simp) ?_
            intro g23 u23 l23 e23
            refine G.call0 _ _ (by kernel_rfl) Tryz.call25 (letter0 (p := [97]) (i := T5.length) (by omega) (by simp)) ?_
            rintro v22 u22 l22 rfl
            have le23 := (((le5).trans l21).trans l23).trans l22
            have lq23 := l23.trans l22
            have e23p := e23.listP.mono l22
            obtain ⟨n24, hsrc24, hL24⟩ := hbag21
            obtain ⟨rfl, hg24⟩ := Src.split hsrc24
            refine G.callA _ _ (by kernel_rfl) (by kernel_rfl) Tryz.call26 rfl (Src.apart hg24) (srcPick0 (L := [1, 2, 2, 3]) (h.mono le23) hk5 e23p (by simp) (by simp)) ?_
            rintro v24 u24 m24 l24 ⟨kd, hkd, k24, rfl, hk24, rfl⟩ _
            obtain ⟨kn, rfl, hkn1, hkn3⟩ := kinds4 hkd
            have hbag24 : Bag (n24.or (s.M k24)) [s.arr k24, iArr a21 c21 (l5 ++ [T5.length]), aArr ta5 tc5 T5, rArr ra rc R] := ⟨n24, Src.at hg24, hL24⟩
            refine G.buildU 61 2 24 (.agg #[.string (mkS []), .int .i64 0]) [.agg #[.string (mkS (nmA T5.length)), .int .i64 (kn : Int)]] (by kernel_rfl) (attV_ok (nmA T5.length, kn)) rfl (by omega) (by simp) (by simp) ?_
            intro g25 u25 l25 e25
            obtain ⟨mm25, hx25, hput25⟩ := hbag24.focus 2 rfl
            rw [aArr_at] at hx25
            refine G.append 61 2 24 (.agg #[.string (mkS []), .int .i64 0]) mm25 (T5.map attV) [.agg #[.string (mkS (nmA T5.length)), .int .i64 (kn : Int)]] (.slice ta5 T5.length tc5) g25 0 1 1 (by kernel_rfl) rfl rfl (by omega) hx25 e25 (attV_ok (nmA T5.length, kn)) rfl (by omega) (by simp [intsV]; omega) (by simp [intsV]; omega) ?_
            intro w25 mn25 hy25
            rw [show T5.map attV ++ [.agg #[.string (mkS (nmA T5.length)), .int .i64 (kn : Int)]] = (T5 ++ [(nmA T5.length, kn)]).map attV by rw [List.map_append]; rfl] at hy25
            obtain ⟨a25, c25, rfl⟩ := hy25.shape
            rw [List.length_map] at hy25 ⊢
            have hbag25 := hput25 (aArr a25 c25 (T5 ++ [(nmA T5.length, kn)])) mn25 hy25
            simp only [List.set_cons_succ, List.set_cons_zero] at hbag25
            refine G.sub z 1 (z - 1) (by kernel_rfl) (by omega) (by omega) (by omega) ?_
            exact G.back (by kernel_rfl) (hJ2 (z - 1, k24, l5 ++ [T5.length], (a21, c21), T5 ++ [(nmA T5.length, kn)], (a25, c25)) _ _ _ ⟨by kernel_rfl, by kernel_rfl, by kernel_rfl⟩ ((((l5'.trans l21).trans lq23).trans l24).trans l25) ⟨hk24, fun e => by simp at e, by dsimp only; omega, by dsimp only; omega, by dsimp only; rw [List.length_append]; omega, hT5.snoc hkn1 hkn3 (by omega), by dsimp only; rw [List.length_append]; exact hl5.snoc, fun a h1 h2 => by
              dsimp only at h2 ⊢
              rw [List.length_append, List.length_singleton] at h2
              rcases Nat.lt_or_ge a T5.length with e | e
              · exact List.mem_append_left _ (hall5 a h1 e)
              · exact List.mem_append_right _ (List.mem_singleton.2 (by omega)), hbag25⟩ (by dsimp only; omega))
        · refine G.lssF (T5.length : Int) (most : Int) (by kernel_rfl) (by omega) ?_
          by_cases hemp : l5 = []
          · have hdummy := hemp
            subst hemp
            refine G.eqlT (([] : List Nat).length : Int) 0 (by kernel_rfl) (by simp) ?_
            refine G.buildU 3 1 8 (.int .i64 0) [.int .i64 ((0 : Nat) : Int)] (by kernel_rfl) (intsV_ok [0]) rfl (by omega) (by simp) (by simp) ?_
            intro g26 u26 l26 e26
            have hl26 : ListP u26 (.slice (some ⟨g26, 0, none⟩) 1 1) 1 (intsV [0]) := e26.listP
            have hbag26 := bag_off hbag5
            refine G.call0 _ _ (by kernel_rfl) Tryz.call25 (letter0 (p := [114]) (i := R.length) (by omega) (by simp)) ?_
            rintro v27 u27 l27 rfl
            refine G.buildU 74 2 40 (.agg #[.string (mkS []), .slice none 0 0]) [.agg #[.string (mkS (nmR R.length)), .slice (some ⟨g26, 0, none⟩) 1 1]] (by kernel_rfl) (relV_ok (nmR R.length, [0], ((some (⟨g26, 0, none⟩ : Addr)), 1))) rfl (by omega) (by simp) (by simp) ?_
            intro g28 u28 l28 e28
            obtain ⟨mm28, hx28, hput28⟩ := hbag26.focus 2 rfl
            rw [rArr_at] at hx28
            refine G.append 74 2 40 (.agg #[.string (mkS []), .slice none 0 0]) mm28 (R.map relV) [.agg #[.string (mkS (nmR R.length)), .slice (some ⟨g26, 0, none⟩) 1 1]] (.slice ra R.length rc) g28 0 1 1 (by kernel_rfl) rfl rfl (by omega) hx28 e28 (relV_ok (nmR R.length, [0], ((some (⟨g26, 0, none⟩ : Addr)), 1))) rfl (by omega) (by simp [intsV]; omega) (by simp [intsV]; omega) ?_
            intro w28 mn28 hy28
            rw [show R.map relV ++ [.agg #[.string (mkS (nmR R.length)), .slice (some ⟨g26, 0, none⟩) 1 1]] = (R ++ [(nmR R.length, [0], ((some (⟨g26, 0, none⟩ : Addr)), 1))]).map relV by rw [List.map_append]; rfl] at hy28
            obtain ⟨a28, c28, rfl⟩ := hy28.shape
            rw [List.length_map] at hy28 ⊢
            have hbag28 := hput28 (rArr a28 c28 (R ++ [(nmR R.length, [0], ((some (⟨g26, 0, none⟩ : Addr)), 1))])) mn28 hy28
            simp only [List.set_cons_succ, List.set_cons_zero] at hbag28
            refine G.add (R.length : Int) 1 ((R.length + 1 : Nat) : Int) (by kernel_rfl) (by omega) (by omega) (by omega) ?_
            have hR28 : ROK u28 T5.length (R ++ [(nmR R.length, [0], ((some (⟨g26, 0, none⟩ : Addr)), 1))]) := by
              refine (hR.mono (lo5 |>.trans l26 |>.trans l27 |>.trans l28)).snoc hTle5 (LOK.zero (by omega)) (by simp) (fun a h1 h2 => ?_) (hl26.mono (l27.trans l28))
              exact absurd (hall5 a h1 h2) (by simp)
            exact G.back (by kernel_rfl) (hJ (R.length + 1, k5, T5, (ta5, tc5), R ++ [(nmR R.length, [0], ((some (⟨g26, 0, none⟩ : Addr)), 1))], (a28, c28)) _ _ _ ⟨by kernel_rfl, by kernel_rfl, by kernel_rfl⟩ (l2.trans (lo5 |>.trans l26 |>.trans l27 |>.trans l28)) ⟨by dsimp only; omega, hk5, hT5, hR28, by simp, fun _ => by dsimp only; omega, hbag28⟩ (by dsimp only; omega))
          · have hpos : 0 < T5.length := by omega
            have hl0 : 0 < l5.length := List.length_pos_iff.2 hemp
            refine G.eqlF (l5.length : Int) 0 (by kernel_rfl) (by omega) ?_
            obtain ⟨mL, hxl, hrest⟩ := hbag5.take 1 rfl
            have hbag26 : Bag mL [s.arr k5, aArr ta5 tc5 T5, rArr ra rc R] := hrest
            rw [iArr_at] at hxl
            refine G.give mL (intsV l5) (.slice la5 l5.length lc5) (by kernel_rfl) hxl (fun g => ?_) ?_
            · obtain ⟨n26, hs26, _⟩ := hbag26
              obtain ⟨rfl, _⟩ := Src.split hs26
              exact s.h0or k k5 n26 g
            intro u26 l26 hl26
            refine G.call0 _ _ (by kernel_rfl) Tryz.call25 (letter0 (p := [114]) (i := R.length) (by omega) (by simp)) ?_
            rintro v27 u27 l27 rfl
            refine G.buildU 74 2 40 (.agg #[.string (mkS []), .slice none 0 0]) [.agg #[.string (mkS (nmR R.length)), .slice la5 l5.length lc5]] (by kernel_rfl) (relV_ok (nmR R.length, l5, (la5, lc5))) rfl (by omega) (by simp) (by simp) ?_
            intro g28 u28 l28 e28
            obtain ⟨mm28, hx28, hput28⟩ := hbag26.focus 2 rfl
            rw [rArr_at] at hx28
            refine G.append 74 2 40 (.agg #[.string (mkS []), .slice none 0 0]) mm28 (R.map relV) [.agg #[.string (mkS (nmR R.length)), .slice la5 l5.length lc5]] (.slice ra R.length rc) g28 0 1 1 (by kernel_rfl) rfl rfl (by omega) hx28 e28 (relV_ok (nmR R.length, l5, (la5, lc5))) rfl (by omega) (by simp [intsV]; omega) (by simp [intsV]; omega) ?_
            intro w28 mn28 hy28
            rw [show R.map relV ++ [.agg #[.string (mkS (nmR R.length)), .slice la5 l5.length lc5]] = (R ++ [(nmR R.length, l5, (la5, lc5))]).map relV by rw [List.map_append]; rfl] at hy28
            obtain ⟨a28, c28, rfl⟩ := hy28.shape
            rw [List.length_map] at hy28 ⊢
            have hbag28 := hput28 (rArr a28 c28 (R ++ [(nmR R.length, l5, (la5, lc5))])) mn28 hy28
            simp only [List.set_cons_succ, List.set_cons_zero] at hbag28
            refine G.add (R.length : Int) 1 ((R.length + 1 : Nat) : Int) (by kernel_rfl) (by omega) (by omega) (by omega) ?_
            have hR28 : ROK u28 T5.length (R ++ [(nmR R.length, l5, (la5, lc5))]) := by
              exact (hR.mono (lo5 |>.trans l26 |>.trans l27 |>.trans l28)).snoc hTle5 hl5 hemp hall5 (hl26.mono (l27.trans l28))
            exact G.back (by kernel_rfl) (hJ (R.length + 1, k5, T5, (ta5, tc5), R ++ [(nmR R.length, l5, (la5, lc5))], (a28, c28)) _ _ _ ⟨by kernel_rfl, by kernel_rfl, by kernel_rfl⟩ (l2.trans (lo5 |>.trans l26 |>.trans l27 |>.trans l28)) ⟨by dsimp only; omega, hk5, hT5, hR28, by simp, fun _ => by dsimp only; omega, hbag28⟩ (by dsimp only; omega))
      · refine G.gtrF z 0 (by kernel_rfl) (by omega) ?_
        by_cases hemp : l5 = []
        · have hz' := hz0 hemp
          have hle0 : l5.length = 0 := by rw [hemp]; rfl
          refine G.eqlT (l5.length : Int) 0 (by kernel_rfl) (by omega) ?_
          by_cases hlen : T5.length < most
          · refine G.lssT (T5.length : Int) (most : Int) (by kernel_rfl) (by omega) ?_
            refine G.buildU 3 1 8 (.int .i64 0) [.int .i64 (T5.length : Int)] (by kernel_rfl) (intsV_ok [T5.length]) rfl (by omega) (by simp) (by simp) ?_
            intro g21 u21 l21 e21
            obtain ⟨mm21, hx21, hput21⟩ := hbag5.focus 1 rfl
            rw [iArr_at] at hx21
            refine G.append 3 1 8 (.int .i64 0) mm21 (intsV l5) [.int .i64 (T5.length : Int)] (.slice la5 l5.length lc5) g21 0 1 1 (by kernel_rfl) rfl rfl (by omega) hx21 e21 (intsV_ok [T5.length]) rfl (by omega) (by simp [intsV]; omega) (by simp [intsV]; omega) ?_
            intro w21 mn21 hy21
            rw [intsV_snoc] at hy21
            obtain ⟨a21, c21, rfl⟩ := hy21.shape
            rw [intsV_length] at hy21 ⊢
            have hbag21 := hput21 (iArr a21 c21 (l5 ++ [T5.length])) mn21 hy21
            simp only [List.set_cons_succ, List.set_cons_zero] at hbag21
            refine G.both [0, 1, 2, 3, 4, 6] 5 7 [8, 9, 10, 11, 12, 13] (by kernel_rfl) ?_ ?_
            · refine G.call0 _ _ (by kernel_rfl) Tryz.call25 (letter0 (p := [97]) (i := T5.length) (by omega) (by simp)) ?_
              rintro v22 u22 l22 rfl
              refine G.buildU 3 1 8 (.int .i64 0) [.int .i64 1, .int .i64 2, .int .i64 2, .int .i64 3] (by kernel_rfl) (intsZ_ok [1, 2, 2, 3]) rfl (by omega) (by simp) (by simp) ?_
              intro g23 u23 l23 e23
              have le23 := (((le5).trans l21).trans l22).trans l23
              have lq23 := l22.trans l23
              have e23p := e23.listP
              obtain ⟨n24, hsrc24, hL24⟩ := hbag21
              obtain ⟨rfl, hg24⟩ := Src.split hsrc24
              refine G.callA _ _ (by kernel_rfl) (by kernel_rfl) Tryz.call26 rfl (Src.apart hg24) (srcPick0 (L := [1, 2, 2, 3]) (h.mono le23) hk5 e23p (by simp) (by simp)) ?_
              rintro v24 u24 m24 l24 ⟨kd, hkd, k24, rfl, hk24, rfl⟩ _
              obtain ⟨kn, rfl, hkn1, hkn3⟩ := kinds4 hkd
              have hbag24 : Bag (n24.or (s.M k24)) [s.arr k24, iArr a21 c21 (l5 ++ [T5.length]), aArr ta5 tc5 T5, rArr ra rc R] := ⟨n24, Src.at hg24, hL24⟩
              refine G.buildU 61 2 24 (.agg #[.string (mkS []), .int .i64 0]) [.agg #[.string (mkS (nmA T5.length)), .int .i64 (kn : Int)]] (by kernel_rfl) (attV_ok (nmA T5.length, kn)) rfl (by omega) (by simp) (by simp) ?_
              intro g25 u25 l25 e25
              obtain ⟨mm25, hx25, hput25⟩ := hbag24.focus 2 rfl
              rw [aArr_at] at hx25
              refine G.append 61 2 24 (.agg #[.string (mkS []), .int .i64 0]) mm25 (T5.map attV) [.agg #[.string (mkS (nmA T5.length)), .int .i64 (kn : Int)]] (.slice ta5 T5.length tc5) g25 0 1 1 (by kernel_rfl) rfl rfl (by omega) hx25 e25 (attV_ok (nmA T5.length, kn)) rfl (by omega) (by simp [intsV]; omega) (by simp [intsV]; omega) ?_
              intro w25 mn25 hy25
              rw [show T5.map attV ++ [.agg #[.string (mkS (nmA T5.length)), .int .i64 (kn : Int)]] = (T5 ++ [(nmA T5.length, kn)]).map attV by rw [List.map_append]; rfl] at hy25
              obtain ⟨a25, c25, rfl⟩ := hy25.shape
              rw [List.length_map] at hy25 ⊢
              have hbag25 := hput25 (aArr a25 c25 (T5 ++ [(nmA T5.length, kn)])) mn25 hy25
              simp only [List.set_cons_succ, List.set_cons_zero] at hbag25
              refine G.sub z 1 (z - 1) (by kernel_rfl) (by omega) (by omega) (by omega) ?_
              exact G.back (by kernel_rfl) (hJ2 (z - 1, k24, l5 ++ [T5.length], (a21, c21), T5 ++ [(nmA T5.length, kn)], (a25, c25)) _ _ _ ⟨by kernel_rfl, by kernel_rfl, by kernel_rfl⟩ ((((l5'.trans l21).trans lq23).trans l24).trans l25) ⟨hk24, fun e => by simp at e, by dsimp only; omega, by dsimp only; omega, by dsimp only; rw [List.length_append]; omega, hT5.snoc hkn1 hkn3 (by omega), by dsimp only; rw [List.length_append]; exact hl5.snoc, fun a h1 h2 => by
                dsimp only at h2 ⊢
                rw [List.length_append, List.length_singleton] at h2
                rcases Nat.lt_or_ge a T5.length with e | e
                · exact List.mem_append_left _ (hall5 a h1 e)
                · exact List.mem_append_right _ (List.mem_singleton.2 (by omega)), hbag25⟩ (by dsimp only; omega))
            · refine G.buildU 3 1 8 (.int .i64 0) [.int .i64 1, .int .i64 2, .int .i64 2, .int .i64 3] (by kernel_rfl) (intsZ_ok [1, 2, 2, 3]) rfl (by omega) (by simp) (by simp) ?_
              intro g23 u23 l23 e23
              refine G.call0 _ _ (by kernel_rfl) Tryz.call25 (letter0 (p := [97]) (i := T5.length) (by omega) (by simp)) ?_
              rintro v22 u22 l22 rfl
              have le23 := (((le5).trans l21).trans l23).trans l22
              have lq23 := l23.trans l22
              have e23p := e23.listP.mono l22
              obtain ⟨n24, hsrc24, hL24⟩ := hbag21
              obtain ⟨rfl, hg24⟩ := Src.split hsrc24
              refine G.callA _ _ (by kernel_rfl) (by kernel_rfl) Tryz.call26 rfl (Src.apart hg24) (srcPick0 (L := [1, 2, 2, 3]) (h.mono le23) hk5 e23p (by simp) (by simp)) ?_
              rintro v24 u24 m24 l24 ⟨kd, hkd, k24, rfl, hk24, rfl⟩ _
              obtain ⟨kn, rfl, hkn1, hkn3⟩ := kinds4 hkd
              have hbag24 : Bag (n24.or (s.M k24)) [s.arr k24, iArr a21 c21 (l5 ++ [T5.length]), aArr ta5 tc5 T5, rArr ra rc R] := ⟨n24, Src.at hg24, hL24⟩
              refine G.buildU 61 2 24 (.agg #[.string (mkS []), .int .i64 0]) [.agg #[.string (mkS (nmA T5.length)), .int .i64 (kn : Int)]] (by kernel_rfl) (attV_ok (nmA T5.length, kn)) rfl (by omega) (by simp) (by simp) ?_
              intro g25 u25 l25 e25
              obtain ⟨mm25, hx25, hput25⟩ := hbag24.focus 2 rfl
              rw [aArr_at] at hx25
              refine G.append 61 2 24 (.agg #[.string (mkS []), .int .i64 0]) mm25 (T5.map attV) [.agg #[.string (mkS (nmA T5.length)), .int .i64 (kn : Int)]] (.slice ta5 T5.length tc5) g25 0 1 1 (by kernel_rfl) rfl rfl (by omega) hx25 e25 (attV_ok (nmA T5.length, kn)) rfl (by omega) (by simp [intsV]; omega) (by simp [intsV]; omega) ?_
              intro w25 mn25 hy25
              rw [show T5.map attV ++ [.agg #[.string (mkS (nmA T5.length)), .int .i64 (kn : Int)]] = (T5 ++ [(nmA T5.length, kn)]).map attV by rw [List.map_append]; rfl] at hy25
              obtain ⟨a25, c25, rfl⟩ := hy25.shape
              rw [List.length_map] at hy25 ⊢
              have hbag25 := hput25 (aArr a25 c25 (T5 ++ [(nmA T5.length, kn)])) mn25 hy25
              simp only [List.set_cons_succ, List.set_cons_zero] at hbag25
              refine G.sub z 1 (z - 1) (by kernel_rfl) (by omega) (by omega) (by omega) ?_
              exact G.back (by kernel_rfl) (hJ2 (z - 1, k24, l5 ++ [T5.length], (a21, c21), T5 ++ [(nmA T5.length, kn)], (a25, c25)) _ _ _ ⟨by kernel_rfl, by kernel_rfl, by kernel_rfl⟩ ((((l5'.trans l21).trans lq23).trans l24).trans l25) ⟨hk24, fun e => by simp at e, by dsimp only; omega, by dsimp only; omega, by dsimp only; rw [List.length_append]; omega, hT5.snoc hkn1 hkn3 (by omega), by dsimp only; rw [List.length_append]; exact hl5.snoc, fun a h1 h2 => by
                dsimp only at h2 ⊢
                rw [List.length_append, List.length_singleton] at h2
                rcases Nat.lt_or_ge a T5.length with e | e
                · exact List.mem_append_left _ (hall5 a h1 e)
                · exact List.mem_append_right _ (List.mem_singleton.2 (by omega)), hbag25⟩ (by dsimp only; omega))
          · refine G.lssF (T5.length : Int) (most : Int) (by kernel_rfl) (by omega) ?_
            subst hemp
            refine G.eqlT (([] : List Nat).length : Int) 0 (by kernel_rfl) (by simp) ?_
            refine G.buildU 3 1 8 (.int .i64 0) [.int .i64 ((0 : Nat) : Int)] (by kernel_rfl) (intsV_ok [0]) rfl (by omega) (by simp) (by simp) ?_
            intro g26 u26 l26 e26
            have hl26 : ListP u26 (.slice (some ⟨g26, 0, none⟩) 1 1) 1 (intsV [0]) := e26.listP
            have hbag26 := bag_off hbag5
            refine G.call0 _ _ (by kernel_rfl) Tryz.call25 (letter0 (p := [114]) (i := R.length) (by omega) (by simp)) ?_
            rintro v27 u27 l27 rfl
            refine G.buildU 74 2 40 (.agg #[.string (mkS []), .slice none 0 0]) [.agg #[.string (mkS (nmR R.length)), .slice (some ⟨g26, 0, none⟩) 1 1]] (by kernel_rfl) (relV_ok (nmR R.length, [0], ((some (⟨g26, 0, none⟩ : Addr)), 1))) rfl (by omega) (by simp) (by simp) ?_
            intro g28 u28 l28 e28
            obtain ⟨mm28, hx28, hput28⟩ := hbag26.focus 2 rfl
            rw [rArr_at] at hx28
            refine G.append 74 2 40 (.agg #[.string (mkS []), .slice none 0 0]) mm28 (R.map relV) [.agg #[.string (mkS (nmR R.length)), .slice (some ⟨g26, 0, none⟩) 1 1]] (.slice ra R.length rc) g28 0 1 1 (by kernel_rfl) rfl rfl (by omega) hx28 e28 (relV_ok (nmR R.length, [0], ((some (⟨g26, 0, none⟩ : Addr)), 1))) rfl (by omega) (by simp [intsV]; omega) (by simp [intsV]; omega) ?_
            intro w28 mn28 hy28
            rw [show R.map relV ++ [.agg #[.string (mkS (nmR R.length)), .slice (some ⟨g26, 0, none⟩) 1 1]] = (R ++ [(nmR R.length, [0], ((some (⟨g26, 0, none⟩ : Addr)), 1))]).map relV by rw [List.map_append]; rfl] at hy28
            obtain ⟨a28, c28, rfl⟩ := hy28.shape
            rw [List.length_map] at hy28 ⊢
            have hbag28 := hput28 (rArr a28 c28 (R ++ [(nmR R.length, [0], ((some (⟨g26, 0, none⟩ : Addr)), 1))])) mn28 hy28
            simp only [List.set_cons_succ, List.set_cons_zero] at hbag28
            refine G.add (R.length : Int) 1 ((R.length + 1 : Nat) : Int) (by kernel_rfl) (by omega) (by omega) (by omega) ?_
            have hR28 : ROK u28 T5.length (R ++ [(nmR R.length, [0], ((some (⟨g26, 0, none⟩ : Addr)), 1))]) := by
              refine (hR.mono (lo5 |>.trans l26 |>.trans l27 |>.trans l28)).snoc hTle5 (LOK.zero (by omega)) (by simp) (fun a h1 h2 => ?_) (hl26.mono (l27.trans l28))
              exact absurd (hall5 a h1 h2) (by simp)
            exact G.back (by kernel_rfl) (hJ (R.length + 1, k5, T5, (ta5, tc5), R ++ [(nmR R.length, [0], ((some (⟨g26, 0, none⟩ : Addr)), 1))], (a28, c28)) _ _ _ ⟨by kernel_rfl, by kernel_rfl, by kernel_rfl⟩ (l2.trans (lo5 |>.trans l26 |>.trans l27 |>.trans l28)) ⟨by dsimp only; omega, hk5, hT5, hR28, by simp, fun _ => by dsimp only; omega, hbag28⟩ (by dsimp only; omega))
        · have hle0 : 0 < l5.length := List.length_pos_iff.2 hemp
          refine G.eqlF (l5.length : Int) 0 (by kernel_rfl) (by omega) ?_
          have hpos : 0 < T5.length := by
            obtain ⟨x, hx⟩ := List.exists_mem_of_ne_nil _ hemp
            have := hl5.lt x hx
            omega
          have hl0 : 0 < l5.length := List.length_pos_iff.2 hemp
          refine G.eqlF (l5.length : Int) 0 (by kernel_rfl) (by omega) ?_
          obtain ⟨mL, hxl, hrest⟩ := hbag5.take 1 rfl
          have hbag26 : Bag mL [s.arr k5, aArr ta5 tc5 T5, rArr ra rc R] := hrest
          rw [iArr_at] at hxl
          refine G.give mL (intsV l5) (.slice la5 l5.length lc5) (by kernel_rfl) hxl (fun g => ?_) ?_
          · obtain ⟨n26, hs26, _⟩ := hbag26
            obtain ⟨rfl, _⟩ := Src.split hs26
            exact s.h0or k k5 n26 g
          intro u26 l26 hl26
          refine G.call0 _ _ (by kernel_rfl) Tryz.call25 (letter0 (p := [114]) (i := R.length) (by omega) (by simp)) ?_
          rintro v27 u27 l27 rfl
          refine G.buildU 74 2 40 (.agg #[.string (mkS []), .slice none 0 0]) [.agg #[.string (mkS (nmR R.length)), .slice la5 l5.length lc5]] (by kernel_rfl) (relV_ok (nmR R.length, l5, (la5, lc5))) rfl (by omega) (by simp) (by simp) ?_
          intro g28 u28 l28 e28
          obtain ⟨mm28, hx28, hput28⟩ := hbag26.focus 2 rfl
          rw [rArr_at] at hx28
          refine G.append 74 2 40 (.agg #[.string (mkS []), .slice none 0 0]) mm28 (R.map relV) [.agg #[.string (mkS (nmR R.length)), .slice la5 l5.length lc5]] (.slice ra R.length rc) g28 0 1 1 (by kernel_rfl) rfl rfl (by omega) hx28 e28 (relV_ok (nmR R.length, l5, (la5, lc5))) rfl (by omega) (by simp [intsV]; omega) (by simp [intsV]; omega) ?_
          intro w28 mn28 hy28
          rw [show R.map relV ++ [.agg #[.string (mkS (nmR R.length)), .slice la5 l5.length lc5]] = (R ++ [(nmR R.length, l5, (la5, lc5))]).map relV by rw [List.map_append]; rfl] at hy28
          obtain ⟨a28, c28, rfl⟩ := hy28.shape
          rw [List.length_map] at hy28 ⊢
          have hbag28 := hput28 (rArr a28 c28 (R ++ [(nmR R.length, l5, (la5, lc5))])) mn28 hy28
          simp only [List.set_cons_succ, List.set_cons_zero] at hbag28
          refine G.add (R.length : Int) 1 ((R.length + 1 : Nat) : Int) (by kernel_rfl) (by omega) (by omega) (by omega) ?_
          have hR28 : ROK u28 T5.length (R ++ [(nmR R.length, l5, (la5, lc5))]) := by
            exact (hR.mono (lo5 |>.trans l26 |>.trans l27 |>.trans l28)).snoc hTle5 hl5 hemp hall5 (hl26.mono (l27.trans l28))
          exact G.back (by kernel_rfl) (hJ (R.length + 1, k5, T5, (ta5, tc5), R ++ [(nmR R.length, l5, (la5, lc5))], (a28, c28)) _ _ _ ⟨by kernel_rfl, by kernel_rfl, by kernel_rfl⟩ (l2.trans (lo5 |>.trans l26 |>.trans l27 |>.trans l28)) ⟨by dsimp only; omega, hk5, hT5, hR28, by simp, fun _ => by dsimp only; omega, hbag28⟩ (by dsimp only; omega))
  obtain rfl : R.length = n := by omega
  refine G.lssF (R.length : Int) (R.length : Int) (by kernel_rfl) (by omega) ?_
  have hTpos := h0 (by omega)
  obtain ⟨n0, hsrc, hL⟩ := hbag
  obtain ⟨rfl, hg0⟩ := Src.split hsrc
  refine G.giveP (ma := n0) (sm := s.M k2) (by kernel_rfl) rfl (Src.apart hg0) (s.h0 k k2) ?_
  intro u3 l3 hm3
  have hAL : ListP u3 (.slice ta T.length tc) 2 (T.map attV) := hL.list hm3 0 rfl
  have hRL : ListP u3 (.slice ra R.length rc) 2 (R.map relV) := hL.list hm3 1 rfl
  refine G.loop (ι := Nat × Nat × List Feat × (Option Addr × Nat) × Int) (fun i => [(0, .v s.ptr), (4, .p 0 0), (5, .p 1001 0), (86, .v (.slice ta T.length tc)), (87, .v (.int .i64 (T.length : Int))), (88, .v (.int .i64 (i.1 : Int)))])
    (fun i => [(0, ⟨30, [.v (.slice none 0 0), .v (.slice none 0 0), .v (.slice none 0 0), .v (.int .i64 0)]⟩), (1001, ⟨30, [.v (.slice ta T.length tc), .v (.slice ra R.length rc), .v (.slice i.2.2.2.1.1 i.2.2.1.length i.2.2.2.1.2), .v (.int .i64 i.2.2.2.2)]⟩)])
    (fun i u' m' => i.1 ≤ T.length ∧ i.2.1 ≤ s.n ∧ FOK T i.2.2.1 i.2.2.2.2 i.1 ∧ Bag m' [s.arr i.2.1, fArr i.2.2.2.1.1 i.2.2.2.1.2 i.2.2.1])
    (fun i => T.length - i.1) (0, k2, [], (none, 0), -1) (by kernel_rfl) (fun _ => by kernel_rfl) ⟨by kernel_rfl, by kernel_rfl, by kernel_rfl⟩
    ⟨Nat.zero_le _, hk2, FOK.nil, s.bag0 k2 ⟨PH.mt, ArrAt.nil _ _ _, trivial⟩⟩ ?_
  rintro J1 ⟨a, k3, F, ⟨fa, fc⟩, lab⟩ hJ1 u4 m4 l4 ⟨ha, hk3, hF, hbag4⟩
  simp only at ha hk3 hF hbag4 hJ1
  have le4 := (le2.trans l3).trans l4
  have hFl := hF.len
  by_cases hlt2 : a < T.length
  · refine G.lssT (a : Int) (T.length : Int) (by kernel_rfl) (by omega) ?_
    have hTa : T[a]? = some T[a] := List.getElem?_eq_getElem hlt2
    have hkd := hT.kd _ (List.getElem_mem hlt2)
    obtain ⟨ba, oa, rfl, ea⟩ := ListP.at' (hAL.mono l4) (j := a) (e := attV T[a]) (by simp [hTa])
    generalize T[a] = x at hTa hkd ea
    obtain ⟨nm, kd⟩ := x
    simp only at hkd
    refine G.addr ba oa T.length tc a 2 (by kernel_rfl) hlt2 ?_
    refine G.loadU (some 2) ba (oa + a * 2) (.agg #[.string (mkS nm), .int .i64 (kd : Int)]) (by kernel_rfl) (by kernel_rfl) ea ?_
    by_cases hk2' : kd = 2
    · subst hk2'
      refine G.eqlT ((2 : Nat) : Int) 2 (by kernel_rfl) (by omega) ?_
      by_cases hlab : lab < 0
      · refine G.lssT lab 0 (by kernel_rfl) (by omega) ?_
        obtain ⟨n5, hsrc5, hL5⟩ := hbag4
        obtain ⟨rfl, hg5⟩ := Src.split hsrc5
        refine G.callA _ _ (by kernel_rfl) (by kernel_rfl) Tryz.call24 rfl (Src.apart hg5) (srcN0 (n := 2) (h.mono le4) hk3 (by omega) (by omega)) ?_
        rintro v5 u5 m5 l5 ⟨r5, k5, rfl, hr5, hk5, rfl⟩ _
        have hbag5 : Bag _ [s.arr k5, fArr fa fc F] := ⟨_, Src.at hg5, hL5⟩
        by_cases hr0 : r5 = 0
        · refine G.eqlT (r5 : Int) 0 (by kernel_rfl) (by omega) ?_
          refine G.add (a : Int) 1 ((a + 1 : Nat) : Int) (by kernel_rfl) (by omega) (by omega) (by omega) ?_
          exact G.back (by kernel_rfl) (hJ1 (a + 1, k5, F, (fa, fc), (a : Int)) _ _ _ ⟨by kernel_rfl, by kernel_rfl, by kernel_rfl⟩ (l4.trans l5) ⟨by dsimp only; omega, hk5, hF.lab hTa, hbag5⟩ (by dsimp only; omega))
        · refine G.eqlF (r5 : Int) 0 (by kernel_rfl) (by omega) ?_
          refine G.eqlT ((2 : Nat) : Int) 2 (by kernel_rfl) (by omega) ?_
          have hg11 := hg5
          have hL11 := hL5
          refine G.callA _ _ (by kernel_rfl) (by kernel_rfl) Tryz.call24 rfl (Src.apart hg11) (srcN0 (n := 4) (h.mono (le4.trans l5)) hk5 (by omega) (by omega)) ?_
          rintro v11 u11 m11 l11 ⟨r11, k11, rfl, hr11, hk11, rfl⟩ _
          have hbag11 : Bag _ [s.arr k11, fArr fa fc F] := ⟨_, Src.at hg11, hL11⟩
          by_cases hr1 : 0 < r11
          · refine G.gtrT (r11 : Int) 0 (by kernel_rfl) (by omega) ?_
            have hg12 := hg11
            have hL12 := hL11
            refine G.callA _ _ (by kernel_rfl) (by kernel_rfl) Tryz.call24 rfl (Src.apart hg12) (srcN0 (n := 2) (h.mono ((le4.trans l5).trans l11)) hk11 (by omega) (by omega)) ?_
            rintro v12 u12 m12 l12 ⟨r12, k12, rfl, hr12, hk12, rfl⟩ _
            have hbag12 : Bag _ [s.arr k12, fArr fa fc F] := ⟨_, Src.at hg12, hL12⟩
            refine G.buildU 64 3 24 (.agg #[.int .i64 0, .int .i64 0, .int .i64 0]) [.agg #[.int .i64 (a : Int), .int .i64 ((1 : Nat) : Int), .int .i64 (r12 : Int)]] (by kernel_rfl) (featV_ok (a, 1, r12)) rfl (by omega) (by simp) (by simp) ?_
            intro g13 u13 l13 e13
            obtain ⟨mm13, hx13, hput13⟩ := hbag12.focus 1 rfl
            rw [fArr_at] at hx13
            refine G.append 64 3 24 (.agg #[.int .i64 0, .int .i64 0, .int .i64 0]) mm13 (F.map featV) [.agg #[.int .i64 (a : Int), .int .i64 ((1 : Nat) : Int), .int .i64 (r12 : Int)]] (.slice fa F.length fc) g13 0 1 1 (by kernel_rfl) rfl rfl (by omega) hx13 e13 (featV_ok (a, 1, r12)) rfl (by omega) (by simp [intsV]; omega) (by simp [intsV]; omega) ?_
            intro w13 mn13 hy13
            rw [show F.map featV ++ [.agg #[.int .i64 (a : Int), .int .i64 ((1 : Nat) : Int), .int .i64 (r12 : Int)]] = (F ++ [(a, 1, r12)]).map featV by rw [List.map_append]; rfl] at hy13
            obtain ⟨a13, c13, rfl⟩ := hy13.shape
            rw [List.length_map] at hy13 ⊢
            have hbag13 := hput13 (fArr a13 c13 (F ++ [(a, 1, r12)])) mn13 hy13
            simp only [List.set_cons_succ, List.set_cons_zero] at hbag13
            refine G.add (a : Int) 1 ((a + 1 : Nat) : Int) (by kernel_rfl) (by omega) (by omega) (by omega) ?_
            exact G.back (by kernel_rfl) (hJ1 (a + 1, k12, F ++ [(a, 1, r12)], (a13, c13), lab) _ _ _ ⟨by kernel_rfl, by kernel_rfl, by kernel_rfl⟩ ((((l4.trans l5).trans l11).trans l12).trans l13) ⟨by dsimp only; omega, hk12, hF.put hTa (.inl ⟨rfl, rfl, by omega⟩), hbag13⟩ (by dsimp only; omega))
          · refine G.gtrF (r11 : Int) 0 (by kernel_rfl) (by omega) ?_
            refine G.eqlF ((2 : Nat) : Int) 3 (by kernel_rfl) (by omega) ?_
            refine G.add (a : Int) 1 ((a + 1 : Nat) : Int) (by kernel_rfl) (by omega) (by omega) (by omega) ?_
            exact G.back (by kernel_rfl) (hJ1 (a + 1, k11, F, (fa, fc), lab) _ _ _ ⟨by kernel_rfl, by kernel_rfl, by kernel_rfl⟩ ((l4.trans l5).trans l11) ⟨by dsimp only; omega, hk11, hF.skip, hbag11⟩ (by dsimp only; omega))
      · refine G.lssF lab 0 (by kernel_rfl) (by omega) ?_
        refine G.eqlT ((2 : Nat) : Int) 2 (by kernel_rfl) (by omega) ?_
        obtain ⟨n11, hsrc11, hL11⟩ := hbag4
        obtain ⟨rfl, hg11⟩ := Src.split hsrc11
        refine G.callA _ _ (by kernel_rfl) (by kernel_rfl) Tryz.call24 rfl (Src.apart hg11) (srcN0 (n := 4) (h.mono le4) hk3 (by omega) (by omega)) ?_
        rintro v11 u11 m11 l11 ⟨r11, k11, rfl, hr11, hk11, rfl⟩ _
        have hbag11 : Bag _ [s.arr k11, fArr fa fc F] := ⟨_, Src.at hg11, hL11⟩
        by_cases hr1 : 0 < r11
        · refine G.gtrT (r11 : Int) 0 (by kernel_rfl) (by omega) ?_
          have hg12 := hg11
          have hL12 := hL11
          refine G.callA _ _ (by kernel_rfl) (by kernel_rfl) Tryz.call24 rfl (Src.apart hg12) (srcN0 (n := 2) (h.mono (le4.trans l11)) hk11 (by omega) (by omega)) ?_
          rintro v12 u12 m12 l12 ⟨r12, k12, rfl, hr12, hk12, rfl⟩ _
          have hbag12 : Bag _ [s.arr k12, fArr fa fc F] := ⟨_, Src.at hg12, hL12⟩
          refine G.buildU 64 3 24 (.agg #[.int .i64 0, .int .i64 0, .int .i64 0]) [.agg #[.int .i64 (a : Int), .int .i64 ((1 : Nat) : Int), .int .i64 (r12 : Int)]] (by kernel_rfl) (featV_ok (a, 1, r12)) rfl (by omega) (by simp) (by simp) ?_
          intro g13 u13 l13 e13
          obtain ⟨mm13, hx13, hput13⟩ := hbag12.focus 1 rfl
          rw [fArr_at] at hx13
          refine G.append 64 3 24 (.agg #[.int .i64 0, .int .i64 0, .int .i64 0]) mm13 (F.map featV) [.agg #[.int .i64 (a : Int), .int .i64 ((1 : Nat) : Int), .int .i64 (r12 : Int)]] (.slice fa F.length fc) g13 0 1 1 (by kernel_rfl) rfl rfl (by omega) hx13 e13 (featV_ok (a, 1, r12)) rfl (by omega) (by simp [intsV]; omega) (by simp [intsV]; omega) ?_
          intro w13 mn13 hy13
          rw [show F.map featV ++ [.agg #[.int .i64 (a : Int), .int .i64 ((1 : Nat) : Int), .int .i64 (r12 : Int)]] = (F ++ [(a, 1, r12)]).map featV by rw [List.map_append]; rfl] at hy13
          obtain ⟨a13, c13, rfl⟩ := hy13.shape
          rw [List.length_map] at hy13 ⊢
          have hbag13 := hput13 (fArr a13 c13 (F ++ [(a, 1, r12)])) mn13 hy13
          simp only [List.set_cons_succ, List.set_cons_zero] at hbag13
          refine G.add (a : Int) 1 ((a + 1 : Nat) : Int) (by kernel_rfl) (by omega) (by omega) (by omega) ?_
          exact G.back (by kernel_rfl) (hJ1 (a + 1, k12, F ++ [(a, 1, r12)], (a13, c13), lab) _ _ _ ⟨by kernel_rfl, by kernel_rfl, by kernel_rfl⟩ (((l4.trans l11).trans l12).trans l13) ⟨by dsimp only; omega, hk12, hF.put hTa (.inl ⟨rfl, rfl, by omega⟩), hbag13⟩ (by dsimp only; omega))
        · refine G.gtrF (r11 : Int) 0 (by kernel_rfl) (by omega) ?_
          refine G.eqlF ((2 : Nat) : Int) 3 (by kernel_rfl) (by omega) ?_
          refine G.add (a : Int) 1 ((a + 1 : Nat) : Int) (by kernel_rfl) (by omega) (by omega) (by omega) ?_
          exact G.back (by kernel_rfl) (hJ1 (a + 1, k11, F, (fa, fc), lab) _ _ _ ⟨by kernel_rfl, by kernel_rfl, by kernel_rfl⟩ (l4.trans l11) ⟨by dsimp only; omega, hk11, hF.skip, hbag11⟩ (by dsimp only; omega))
    · refine G.eqlF (kd : Int) 2 (by kernel_rfl) (by omega) ?_
      refine G.eqlF (kd : Int) 2 (by kernel_rfl) (by omega) ?_
      by_cases hk3' : kd = 3
      · subst hk3'
        refine G.eqlT ((3 : Nat) : Int) 3 (by kernel_rfl) (by omega) ?_
        obtain ⟨n5, hsrc5, hL5⟩ := hbag4
        obtain ⟨rfl, hg5⟩ := Src.split hsrc5
        refine G.callA _ _ (by kernel_rfl) (by kernel_rfl) Tryz.call24 rfl (Src.apart hg5) (srcN0 (n := 4) (h.mono le4) hk3 (by omega) (by omega)) ?_
        rintro v5 u5 m5 l5 ⟨r5, k5, rfl, hr5, hk5, rfl⟩ _
        have hbag5 : Bag _ [s.arr k5, fArr fa fc F] := ⟨_, Src.at hg5, hL5⟩
        by_cases hr0 : 0 < r5
        · refine G.gtrT (r5 : Int) 0 (by kernel_rfl) (by omega) ?_
          refine G.buildU 64 3 24 (.agg #[.int .i64 0, .int .i64 0, .int .i64 0]) [.agg #[.int .i64 (a : Int), .int .i64 ((2 : Nat) : Int), .int .i64 ((0 : Nat) : Int)]] (by kernel_rfl) (featV_ok (a, 2, 0)) rfl (by omega) (by simp) (by simp) ?_
          intro g6 u6 l6 e6
          obtain ⟨mm6, hx6, hput6⟩ := hbag5.focus 1 rfl
          rw [fArr_at] at hx6
          refine G.append 64 3 24 (.agg #[.int .i64 0, .int .i64 0, .int .i64 0]) mm6 (F.map featV) [.agg #[.int .i64 (a : Int), .int .i64 ((2 : Nat) : Int), .int .i64 ((0 : Nat) : Int)]] (.slice fa F.length fc) g6 0 1 1 (by kernel_rfl) rfl rfl (by omega) hx6 e6 (featV_ok (a, 2, 0)) rfl (by omega) (by simp [intsV]; omega) (by simp [intsV]; omega) ?_
          intro w6 mn6 hy6
          rw [show F.map featV ++ [.agg #[.int .i64 (a : Int), .int .i64 ((2 : Nat) : Int), .int .i64 ((0 : Nat) : Int)]] = (F ++ [(a, 2, 0)]).map featV by rw [List.map_append]; rfl] at hy6
          obtain ⟨a6, c6, rfl⟩ := hy6.shape
          rw [List.length_map] at hy6 ⊢
          have hbag6 := hput6 (fArr a6 c6 (F ++ [(a, 2, 0)])) mn6 hy6
          simp only [List.set_cons_succ, List.set_cons_zero] at hbag6
          refine G.add (a : Int) 1 ((a + 1 : Nat) : Int) (by kernel_rfl) (by omega) (by omega) (by omega) ?_
          exact G.back (by kernel_rfl) (hJ1 (a + 1, k5, F ++ [(a, 2, 0)], (a6, c6), lab) _ _ _ ⟨by kernel_rfl, by kernel_rfl, by kernel_rfl⟩ ((l4.trans l5).trans l6) ⟨by dsimp only; omega, hk5, hF.put hTa (.inr ⟨rfl, rfl, rfl⟩), hbag6⟩ (by dsimp only; omega))
        · refine G.gtrF (r5 : Int) 0 (by kernel_rfl) (by omega) ?_
          refine G.add (a : Int) 1 ((a + 1 : Nat) : Int) (by kernel_rfl) (by omega) (by omega) (by omega) ?_
          exact G.back (by kernel_rfl) (hJ1 (a + 1, k5, F, (fa, fc), lab) _ _ _ ⟨by kernel_rfl, by kernel_rfl, by kernel_rfl⟩ (l4.trans l5) ⟨by dsimp only; omega, hk5, hF.skip, hbag5⟩ (by dsimp only; omega))
      · refine G.eqlF (kd : Int) 3 (by kernel_rfl) (by omega) ?_
        refine G.add (a : Int) 1 ((a + 1 : Nat) : Int) (by kernel_rfl) (by omega) (by omega) (by omega) ?_
        exact G.back (by kernel_rfl) (hJ1 (a + 1, k3, F, (fa, fc), lab) _ _ _ ⟨by kernel_rfl, by kernel_rfl, by kernel_rfl⟩ l4 ⟨by dsimp only; omega, hk3, hF.skip, hbag4⟩ (by dsimp only; omega))
  obtain rfl : a = T.length := by omega
  refine G.lssF (T.length : Int) (T.length : Int) (by kernel_rfl) (by omega) ?_
  obtain ⟨n5, hsrc5, hL5⟩ := hbag4
  obtain ⟨rfl, hg5⟩ := Src.split hsrc5
  refine G.giveP (ma := n5) (sm := s.M k3) (by kernel_rfl) rfl (Src.apart hg5) (s.h0 k k3) ?_
  intro u5 l5 hm5
  have hFL : ListP u5 (.slice fa F.length fc) 3 (F.map featV) := hL5.list hm5 0 rfl
  refine G.gtrF (F.length : Int) 8 (by kernel_rfl) (by omega) ?_
  exact G.ret (.agg #[.slice ta T.length tc, .slice ra R.length rc, .slice fa F.length fc, .int .i64 lab]) (by kernel_rfl) ⟨T, R, F, lab, k3, ⟨_, _, _, _, _, _, rfl, hAL.mono (l4.trans l5), hRL.mono (l4.trans l5), hFL⟩, sch_ok hT (hR.mono ((l3.trans l4).trans l5)) hF hTpos (by omega) (by omega), hT6, hk3, rfl⟩
end Go.Proofs.YtpdboaedoimahaaGreatDoor
end
section
set_option linter.unusedSectionVars false
set_option linter.unusedVariables false
namespace Go.Proofs.YtpdboaedoimahaaGreatDoor
open Go.RowKit Go.MapKept
set_option maxHeartbeats 1000000 in
theorem refSum0 {u : PH} {v : Value} {F : CF} {K : Nat} (p : Par) (h : CofP u v F K) (hK : K ≤ 1000000) : Fn0 Tryz.prog 17 [v, parV p] u fun r _ => r = .string (mkS (ratT (F.s p))) := by
  obtain ⟨T, Q, a1, c1, a2, c2, rfl, hT, hQ, cT, cQ, kT, kQ⟩ := h
  refine Fn0.of Tryz.func17 (by kernel_rfl) (by kernel_rfl) ?_
  refine G.loop (ι := Nat) (fun i => [(3, .p 1 0), (8, .v (.slice a1 T.length c1)), (9, .v (.int .i64 (T.length : Int))), (10, .v (.int .i64 (i : Int)))]) (fun _ => [(1, ⟨55, [.v (.int .i64 p.1), .v (.string (mkS p.2))]⟩)])
    (fun i u' m' => i ≤ T.length ∧ (∀ j (hj : j < T.length), j < i → (T[j]'hj).1 ≠ p) ∧ m' = PH.mt) (fun i => T.length - i) 0 (by kernel_rfl) (fun _ => by kernel_rfl) ⟨by kernel_rfl, by kernel_rfl, by kernel_rfl⟩ ⟨by omega, fun j hj h => by omega, rfl⟩ ?_
  rintro J i hJ u1 m1 l1 ⟨hi, h0, rfl⟩
  by_cases hlt : i < T.length
  · refine G.lssT (i : Int) (T.length : Int) (by kernel_rfl) (by omega) ?_
    have hTi : T[i]? = some T[i] := List.getElem?_eq_getElem hlt
    have hval := (cT.val _ (List.getElem_mem hlt)).1
    obtain ⟨ba, oa, rfl, ea⟩ := ListP.at' (hT.mono l1) (j := i) (e := termV T[i]) (by simp [hTi])
    refine G.addr ba oa T.length c1 i 3 (by kernel_rfl) (by omega) ?_
    refine G.loadU (some 3) ba (oa + i * 3) (.agg #[.int .i64 T[i].1.1, .string (mkS T[i].1.2), .string (mkS (ratT T[i].2))]) (by kernel_rfl) (by kernel_rfl) ea ?_
    by_cases he : T[i].1 = p
    · refine G.eqAgg 55 #[.int .i64 T[i].1.1, .string (mkS T[i].1.2)] #[.int .i64 p.1, .string (mkS p.2)] true (by kernel_rfl) (by kernel_rfl) (by kernel_rfl) (fun w => by rw [← decide_eq_true he]; exact keyPar.eq T[i].1 p w) ?_
      exact G.ret (.string (mkS (ratT T[i].2))) (by kernel_rfl) ⟨rfl, by rw [hval, he]⟩
    · refine G.eqAgg 55 #[.int .i64 T[i].1.1, .string (mkS T[i].1.2)] #[.int .i64 p.1, .string (mkS p.2)] false (by kernel_rfl) (by kernel_rfl) (by kernel_rfl) (fun w => by rw [← decide_eq_false he]; exact keyPar.eq T[i].1 p w) ?_
      refine G.add (i : Int) 1 ((i + 1 : Nat) : Int) (by kernel_rfl) (by omega) (by omega) (by omega) ?_
      exact G.back (by kernel_rfl) (hJ (i + 1) _ _ _ ⟨by kernel_rfl, by kernel_rfl, by kernel_rfl⟩ l1 ⟨by omega, fun j hj h => by
        rcases (by omega : j < i ∨ j = i) with e | rfl
        · exact h0 j hj e
        · exact he, rfl⟩ (by omega))
  · obtain rfl : i = T.length := by omega
    refine G.lssF (T.length : Int) (T.length : Int) (by kernel_rfl) (by omega) ?_
    have hz : F.s p = 0 := cT.out p fun hm => by
      obtain ⟨x, hx, e⟩ := List.mem_map.1 hm
      obtain ⟨j, hj, rfl⟩ := List.getElem_of_mem hx
      exact h0 j hj hj e
    exact G.ret (.string (mkS [48])) (by kernel_rfl) ⟨rfl, by rw [hz, ratT_zero]⟩
end Go.Proofs.YtpdboaedoimahaaGreatDoor
end
section
set_option linter.unusedSectionVars false
set_option linter.unusedVariables false
namespace Go.Proofs.YtpdboaedoimahaaGreatDoor
open Go.RowKit Go.MapKept
theorem getD_set {ss : List (List UInt8)} {i j : Nat} (hi : i < ss.length) : (ss.set i []).getD j [] = if j = i then [] else ss.getD j [] := by
  rw [List.getD_eq_getElem?_getD, List.getElem?_set, List.getD_eq_getElem?_getD]
  by_cases h : j = i
  · subst h; rw [if_pos rfl, if_pos hi, if_pos rfl]; rfl
  · rw [if_neg (fun e => h e.symm), if_neg h]
theorem cnt_full {F : List Feat} {lab : Int} {ss : List (List UInt8)} (h2 : ∀ l : Nat, lab = (l : Int) → l < ss.length) (hF : ∀ f ∈ F, f.1 < ss.length) (hf : ∀ i, i < ss.length → ss.getD i [] ≠ []) : cntB F lab ss = true := by
  unfold cntB
  simp only [Bool.and_eq_true, Bool.not_eq_true', Bool.and_eq_false_iff, decide_eq_false_iff_not, Int.not_le]
  constructor
  · rcases Classical.em (lab < 0) with h | h
    · exact .inl h
    · right
      obtain ⟨l, hl⟩ : ∃ l : Nat, lab = (l : Int) := ⟨lab.toNat, by omega⟩
      have := hf l (h2 l hl)
      rw [hl, Int.toNat_natCast]
      simpa using this
  · rw [List.any_eq_false]
    intro f hfm hd
    unfold dropB at hd
    simp only [Bool.and_eq_true, List.isEmpty_iff] at hd
    exact hf f.1 (hF f hfm) hd.2
def wantB (F : List Feat) (lab : Int) (i n : Nat) : Bool := decide ((i : Int) ≠ lab) && (F.take n).all fun f => !(f.1 == i && f.2.1 == 1 && f.2.2 == 1)
theorem wantB_zero (F : List Feat) (lab : Int) (i : Nat) : wantB F lab i 0 = decide ((i : Int) ≠ lab) := by unfold wantB; simp
theorem wantB_succ {F : List Feat} {lab : Int} {i n : Nat} {f : Feat} (h : F[n]? = some f) : wantB F lab i (n + 1) = (wantB F lab i n && !(f.1 == i && f.2.1 == 1 && f.2.2 == 1)) := by
  unfold wantB
  rw [List.take_add_one, h, List.all_append]
  simp [Bool.and_assoc]
theorem cnt_drop {F : List Feat} {lab : Int} {ss : List (List UInt8)} {i : Nat} (h1 : -1 ≤ lab) (h2 : ∀ l : Nat, lab = (l : Int) → l < ss.length) (hF : ∀ f ∈ F, f.1 < ss.length) (hf : ∀ i, i < ss.length → ss.getD i [] ≠ []) (hi : i < ss.length) : cntB F lab (ss.set i []) = wantB F lab i F.length := by
  have e1 : (decide (0 ≤ lab) && ((ss.set i []).getD lab.toNat []).isEmpty) = decide ((i : Int) = lab) := by
    rcases Classical.em (lab < 0) with h | h
    · rw [decide_eq_false (show ¬ 0 ≤ lab by omega), decide_eq_false (show ¬ (i : Int) = lab by omega)]; rfl
    · obtain ⟨l, hl⟩ : ∃ l : Nat, lab = (l : Int) := ⟨lab.toNat, by omega⟩
      have hlt := h2 l hl
      rw [hl, Int.toNat_natCast, decide_eq_true (show 0 ≤ (l : Int) by omega), Bool.true_and, getD_set hi]
      by_cases e : l = i
      · subst e; rw [if_pos rfl, decide_eq_true rfl]; rfl
      · rw [if_neg e, decide_eq_false (show ¬ (i : Int) = (l : Int) by omega)]
        have := hf l hlt
        cases hx : ss.getD l [] with
        | nil => exact absurd hx this
        | cons a b => rfl
  have e2 : F.any (dropB (ss.set i [])) = !(F.all fun f => !(f.1 == i && f.2.1 == 1 && f.2.2 == 1)) := by
    rw [List.not_all_eq_any_not]
    have hany : ∀ (L : List Feat) (p q : Feat → Bool), (∀ f ∈ L, p f = q f) → L.any p = L.any q := fun L p q h => by
      rw [Bool.eq_iff_iff, List.any_eq_true, List.any_eq_true]
      exact ⟨fun ⟨x, h1, h2⟩ => ⟨x, h1, by rw [← h x h1]; exact h2⟩, fun ⟨x, h1, h2⟩ => ⟨x, h1, by rw [h x h1]; exact h2⟩⟩
    refine hany _ _ _ fun f hfm => ?_
    unfold dropB
    rw [getD_set hi]
    by_cases e : f.1 = i
    · rw [if_pos e, beq_iff_eq.2 e]; simp
    · rw [if_neg e]
      have h3 : (f.1 == i) = false := by simpa using e
      have h4 : (ss.getD f.1 []).isEmpty = false := by
        have := hf f.1 (hF f hfm)
        cases hx : ss.getD f.1 [] with
        | nil => exact absurd hx this
        | cons a b => rfl
      rw [h3, h4]; simp
  unfold cntB wantB
  rw [e1, e2, Bool.not_not, List.take_length]
  congr 1
  by_cases h : (i : Int) = lab <;> simp [h]
end Go.Proofs.YtpdboaedoimahaaGreatDoor
end
