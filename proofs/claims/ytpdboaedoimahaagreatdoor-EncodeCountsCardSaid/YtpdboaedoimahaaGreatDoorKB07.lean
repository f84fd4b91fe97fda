/- Joined out of parts of one proof by a program: contracts of the functions that the statement reaches, and the plain facts behind them. -/
import Derived.Test.YtpdboaedoimahaaGreatDoorKB06
import Derived.Laws.StructEq
import Derived.RangeFuncSeq
import Derived.RangeFuncGives
import Derived.Maps.AppendAt
import Derived.Shelf.Abstract
import Derived.Shelf.AbstractIn
import Derived.Sort.MapsRangeIn
import Derived.WalkKit
import Derived.OwnWalkIn
import Derived.TacticsInMore
import Derived.RegionIn
import Derived.LoopNIn
import Derived.LoopIn
import Derived.Shelf.SlIter.Collect
set_option linter.unusedVariables false
set_option linter.unusedSimpArgs false
set_option linter.unusedSectionVars false
section
set_option linter.unusedSectionVars false
set_option linter.unusedVariables false
set_option linter.unusedSimpArgs false
namespace Go.Proofs.YtpdboaedoimahaaGreatDoor
def parV (p : Par) : Value := .agg #[.int .i64 p.1, .string (mkS p.2)]
def prV (q : Par × Par) : Value := .agg #[.int .i64 q.1.1, .string (mkS q.1.2), .int .i64 q.2.1, .string (mkS q.2.2)]
def fldOf (f : Field) : Bool × TypeId × Nat := (f.name != "_", f.type, f.offset)
section
variable {P : Program}
theorem run_part1 {t : TypeId} {xs : Array Value} {o : Nat} {v : Value} (h : aggB P t = some false) (hv : xs[o]? = some v) (w : World) : (part t xs o).run P w = .ok v w := by
  simp [part, run_isAgg' h, hv]
theorem run_partN {t : TypeId} {n : Nat} {xs : Array Value} {o : Nat} (h : aggB P t = some true) (hn : szB P t = some n) (w : World) : (part t xs o).run P w = .ok (.agg (xs.extract o (o + n))) w := by
  simp [part, run_isAgg' h, run_sizeOf' hn]
theorem und_of_agg {t : TypeId} {k : IntKind} (h : P.underlying t = some (.int k)) : aggB P t = some false := by unfold aggB; rw [h]
theorem und_of_str {t : TypeId} (h : P.underlying t = some .string) : aggB P t = some false := by unfold aggB; rw [h]
theorem mkS_beq (a b : List UInt8) : ((mkS a).toList == (mkS b).toList) = decide (a = b) := bytes_beq a b
theorem twoList {A B : Type} {h : A → B} {fs : List A} {x y : B} (hf : fs.map h = [x, y]) : ∃ f g, fs = [f, g] := by
  have h0 := congrArg List.length hf
  simp only [List.length_map, List.length_cons, List.length_nil] at h0
  match fs, h0 with
  | [f, g], _ => exact ⟨f, g, rfl⟩
theorem run_eq_par {t ti ts : TypeId} {k : IntKind} (hf : (P.fieldsOf t).toList.map fldOf = [(true, ti, 0), (true, ts, 1)]) (ht : P.underlying t = some (.struct (P.fieldsOf t))) (hp : P.stoodInHeld t = false) (hi : P.underlying ti = some (.int k)) (hs : P.underlying ts = some .string) (d : Nat) (a b : Par) (w : World) :
    (Op.equalIn (d + 2) t (parV a) (parV b)).run P w = .ok (decide (a = b)) w := by
  unfold parV
  rw [run_equalIn_struct w (d + 1) t _ _ ht hp]
  generalize (P.fieldsOf t).toList = fs at hf
  obtain ⟨f, g, hfs⟩ := twoList hf
  subst hfs
  · simp only [List.map_cons, List.map_nil, List.cons.injEq, fldOf, Prod.mk.injEq, bne_iff_ne, ne_eq, and_true] at hf
    obtain ⟨⟨n1, rfl, o1⟩, n2, rfl, o2⟩ := hf
    obtain ⟨a1, a2⟩ := a
    obtain ⟨b1, b2⟩ := b
    simp only [Op.eqFields, ne_eq, n1, n2, not_false_eq_true, if_true, Sem.run_bind]
    rw [run_part1 (und_of_agg hi) (v := .int .i64 a1) (by rw [o1]; rfl), Result.andThen_ok, run_part1 (und_of_agg hi) (v := .int .i64 b1) (by rw [o1]; rfl), Result.andThen_ok, run_equalIn_int w d _ _ _ _ _ hi, Result.andThen_ok]
    by_cases e : a1 = b1
    · subst e
      simp only [beq_self_eq_true, Bool.not_true, Bool.false_eq_true, if_false, Sem.run_bind]
      rw [run_part1 (und_of_str hs) (v := .string (mkS a2)) (by rw [o2]; rfl), Result.andThen_ok, run_part1 (und_of_str hs) (v := .string (mkS b2)) (by rw [o2]; rfl), Result.andThen_ok, run_equalIn_string w d _ _ _ hs, Result.andThen_ok, mkS_beq]
      by_cases e2 : a2 = b2
      · subst e2; simp
      · simp [e2]
    · have : (a1 == b1) = false := by simpa using e
      simp [this, e]
theorem run_eq_pr {t tp ti ts : TypeId} {k : IntKind} (hf : (P.fieldsOf t).toList.map fldOf = [(true, tp, 0), (true, tp, 2)]) (ht : P.underlying t = some (.struct (P.fieldsOf t))) (hp : P.stoodInHeld t = false)
    (hf' : (P.fieldsOf tp).toList.map fldOf = [(true, ti, 0), (true, ts, 1)]) (ht' : P.underlying tp = some (.struct (P.fieldsOf tp))) (hp' : P.stoodInHeld tp = false) (hsz : szB P tp = some 2) (hi : P.underlying ti = some (.int k)) (hs : P.underlying ts = some .string) (d : Nat) (a b : Par × Par) (w : World) :
    (Op.equalIn (d + 3) t (prV a) (prV b)).run P w = .ok (decide (a = b)) w := by
  have hag : aggB P tp = some true := by unfold aggB; rw [ht']
  unfold prV
  rw [run_equalIn_struct w (d + 2) t _ _ ht hp]
  generalize (P.fieldsOf t).toList = fs at hf
  obtain ⟨f, g, hfs⟩ := twoList hf
  subst hfs
  · simp only [List.map_cons, List.map_nil, List.cons.injEq, fldOf, Prod.mk.injEq, bne_iff_ne, ne_eq, and_true] at hf
    obtain ⟨⟨n1, e1, o1⟩, n2, e2, o2⟩ := hf
    obtain ⟨⟨a1, a2⟩, a3, a4⟩ := a
    obtain ⟨⟨b1, b2⟩, b3, b4⟩ := b
    simp only [Op.eqFields, ne_eq, n1, n2, not_false_eq_true, if_true, Sem.run_bind, e1, e2, o1, o2]
    rw [run_partN hag hsz, Result.andThen_ok, run_partN hag hsz, Result.andThen_ok]
    have q1 := run_eq_par hf' ht' hp' hi hs d (a1, a2) (b1, b2) w
    have q2 := run_eq_par hf' ht' hp' hi hs d (a3, a4) (b3, b4) w
    unfold parV at q1 q2
    have x1 : (#[Value.int .i64 a1, .string (mkS a2), .int .i64 a3, .string (mkS a4)].extract 0 (0 + 2)) = #[.int .i64 a1, .string (mkS a2)] := rfl
    have x2 : (#[Value.int .i64 b1, .string (mkS b2), .int .i64 b3, .string (mkS b4)].extract 0 (0 + 2)) = #[.int .i64 b1, .string (mkS b2)] := rfl
    have x3 : (#[Value.int .i64 a1, .string (mkS a2), .int .i64 a3, .string (mkS a4)].extract 2 (2 + 2)) = #[.int .i64 a3, .string (mkS a4)] := rfl
    have x4 : (#[Value.int .i64 b1, .string (mkS b2), .int .i64 b3, .string (mkS b4)].extract 2 (2 + 2)) = #[.int .i64 b3, .string (mkS b4)] := rfl
    simp only [x1, x2, q1, Result.andThen_ok]
    by_cases e : ((a1, a2) : Par) = (b1, b2)
    · simp only [e, decide_true, Bool.not_true, Bool.false_eq_true, if_false, Sem.run_bind]
      rw [run_partN hag hsz, Result.andThen_ok, run_partN hag hsz, Result.andThen_ok]
      simp only [x3, x4, q2, Result.andThen_ok]
      by_cases e' : ((a3, a4) : Par) = (b3, b4)
      · simp [e']
      · simp [e']
    · simp [e]
theorem run_chk_leaf {t : TypeId} (h : (∃ k, P.underlying t = some (.int k)) ∨ P.underlying t = some .string) (e : Bool) (d : Nat) (v : Value) (w : World) : (Instr.checkKey e (d + 1) t v).run P w = .ok () w := by
  unfold Instr.checkKey
  rcases h with ⟨k, h⟩ | h <;> simp [run_underlying h]
theorem run_chk_par {t ti ts : TypeId} {k : IntKind} (hf : (P.fieldsOf t).toList.map fldOf = [(true, ti, 0), (true, ts, 1)]) (ht : P.underlying t = some (.struct (P.fieldsOf t))) (hi : P.underlying ti = some (.int k)) (hs : P.underlying ts = some .string) (e : Bool) (d : Nat) (a : Par) (w : World) :
    (Instr.checkKey e (d + 2) t (parV a)).run P w = .ok () w := by
  unfold parV
  rw [Instr.checkKey]
  simp only [Sem.run_bind, run_underlying ht, Result.andThen_ok]
  rw [← Array.forIn_toList]
  generalize (P.fieldsOf t).toList = fs at hf
  obtain ⟨f, g, hfs⟩ := twoList hf
  subst hfs
  · simp only [List.map_cons, List.map_nil, List.cons.injEq, fldOf, Prod.mk.injEq, bne_iff_ne, ne_eq, and_true] at hf
    obtain ⟨⟨n1, e1, o1⟩, n2, e2, o2⟩ := hf
    simp only [List.forIn_cons, List.forIn_nil, ne_eq, n1, n2, not_false_eq_true, if_true, Sem.run_bind, e1, e2, o1, o2]
    rw [run_part1 (und_of_agg hi) (v := .int .i64 a.1) rfl, Result.andThen_ok, run_chk_leaf (.inl ⟨k, hi⟩)]
    simp only [Result.andThen_ok, Sem.run_pure, Sem.run_bind]
    rw [run_part1 (und_of_str hs) (v := .string (mkS a.2)) rfl, Result.andThen_ok, run_chk_leaf (.inr hs)]
    simp
theorem run_chk_pr {t tp ti ts : TypeId} {k : IntKind} (hf : (P.fieldsOf t).toList.map fldOf = [(true, tp, 0), (true, tp, 2)]) (ht : P.underlying t = some (.struct (P.fieldsOf t)))
    (hf' : (P.fieldsOf tp).toList.map fldOf = [(true, ti, 0), (true, ts, 1)]) (ht' : P.underlying tp = some (.struct (P.fieldsOf tp))) (hsz : szB P tp = some 2) (hi : P.underlying ti = some (.int k)) (hs : P.underlying ts = some .string) (e : Bool) (d : Nat) (a : Par × Par) (w : World) :
    (Instr.checkKey e (d + 3) t (prV a)).run P w = .ok () w := by
  have hag : aggB P tp = some true := by unfold aggB; rw [ht']
  unfold prV
  rw [Instr.checkKey]
  simp only [Sem.run_bind, run_underlying ht, Result.andThen_ok]
  rw [← Array.forIn_toList]
  generalize (P.fieldsOf t).toList = fs at hf
  obtain ⟨f, g, hfs⟩ := twoList hf
  subst hfs
  · simp only [List.map_cons, List.map_nil, List.cons.injEq, fldOf, Prod.mk.injEq, bne_iff_ne, ne_eq, and_true] at hf
    obtain ⟨⟨n1, e1, o1⟩, n2, e2, o2⟩ := hf
    have q1 := run_chk_par hf' ht' hi hs e d a.1 w
    have q2 := run_chk_par hf' ht' hi hs e d a.2 w
    unfold parV at q1 q2
    simp only [List.forIn_cons, List.forIn_nil, ne_eq, n1, n2, not_false_eq_true, if_true, Sem.run_bind, e1, e2, o1, o2]
    rw [run_partN hag hsz, Result.andThen_ok]
    have x1 : (#[Value.int .i64 a.1.1, .string (mkS a.1.2), .int .i64 a.2.1, .string (mkS a.2.2)].extract 0 (0 + 2)) = #[.int .i64 a.1.1, .string (mkS a.1.2)] := rfl
    have x2 : (#[Value.int .i64 a.1.1, .string (mkS a.1.2), .int .i64 a.2.1, .string (mkS a.2.2)].extract 2 (2 + 2)) = #[.int .i64 a.2.1, .string (mkS a.2.2)] := rfl
    rw [x1, q1]
    simp only [Result.andThen_ok, Sem.run_pure, Sem.run_bind]
    rw [run_partN hag hsz, Result.andThen_ok, x2, q2]
    simp
theorem parV_inj (a b : Par) (h : parV a = parV b) : a = b := by
  unfold parV at h
  simp only [Value.agg.injEq, Array.mk.injEq, List.cons.injEq, Value.int.injEq, Value.string.injEq, true_and, and_true] at h
  exact Prod.ext h.1 (mkS_inj.1 h.2)
theorem prV_inj (a b : Par × Par) (h : prV a = prV b) : a = b := by
  unfold prV at h
  simp only [Value.agg.injEq, Array.mk.injEq, List.cons.injEq, Value.int.injEq, Value.string.injEq, true_and, and_true] at h
  exact Prod.ext (Prod.ext h.1 (mkS_inj.1 h.2.1)) (Prod.ext h.2.2.1 (mkS_inj.1 h.2.2.2))
theorem bits_int (d : Nat) (k : IntKind) (z : Int) : Instr.sameBits d (.int k z) (.int k z) = true := by unfold Instr.sameBits; simp
theorem bits_str (d : Nat) (z : ByteArray) : Instr.sameBits d (.string z) (.string z) = true := by
  obtain ⟨⟨l⟩⟩ := z
  have : ((⟨⟨l⟩⟩ : ByteArray) == ⟨⟨l⟩⟩) = true := by rw [beq_toListBytes]; simp
  unfold Instr.sameBits; exact this
theorem bits_par (a : Par) : Instr.sameBits 10000 (parV a) (parV a) = true := by
  show Instr.sameBits (9999 + 1) _ _ = true
  unfold parV Instr.sameBits
  simp [bits_int, bits_str]
theorem bits_pr (a : Par × Par) : Instr.sameBits 10000 (prV a) (prV a) = true := by
  show Instr.sameBits (9999 + 1) _ _ = true
  unfold prV Instr.sameBits
  simp [bits_int, bits_str]
end
theorem keyPar : KeyT Tryz.prog 55 parV :=
  ⟨fun a b w => run_eq_par (P := Tryz.prog) (t := 55) (ti := 3) (ts := 9) (k := .i64) (by kernel_rfl) (by kernel_rfl) (by kernel_rfl) (by kernel_rfl) (by kernel_rfl) 9998 a b w,
   ⟨_, (by kernel_rfl : Tryz.prog.underlying 55 = some (.struct (Tryz.prog.fieldsOf 55))), .inl fun _ _ => rfl⟩,
   fun e a w => run_chk_par (P := Tryz.prog) (t := 55) (ti := 3) (ts := 9) (k := .i64) (by kernel_rfl) (by kernel_rfl) (by kernel_rfl) (by kernel_rfl) e 9998 a w, bits_par, parV_inj⟩
theorem keyPr : KeyT Tryz.prog 163 prV :=
  ⟨fun a b w => run_eq_pr (P := Tryz.prog) (t := 163) (tp := 55) (ti := 3) (ts := 9) (k := .i64) (by kernel_rfl) (by kernel_rfl) (by kernel_rfl) (by kernel_rfl) (by kernel_rfl) (by kernel_rfl) (by kernel_rfl) (by kernel_rfl) (by kernel_rfl) 9997 a b w,
   ⟨_, (by kernel_rfl : Tryz.prog.underlying 163 = some (.struct (Tryz.prog.fieldsOf 163))), .inl fun _ _ => rfl⟩,
   fun e a w => run_chk_pr (P := Tryz.prog) (t := 163) (tp := 55) (ti := 3) (ts := 9) (k := .i64) (by kernel_rfl) (by kernel_rfl) (by kernel_rfl) (by kernel_rfl) (by kernel_rfl) (by kernel_rfl) (by kernel_rfl) e 9997 a w, bits_pr, prV_inj⟩
end Go.Proofs.YtpdboaedoimahaaGreatDoor
end
section
set_option linter.unusedSectionVars false
set_option linter.unusedVariables false
namespace Go.Proofs.YtpdboaedoimahaaGreatDoor
variable [Flag]
def atReg : List KI → Bool
  | .code (.region _ _ _) :: _ => true
  | _ => false
def meet (P : Program) : Nat → List KI × S → List KI × S
  | 0, st => st
  | n + 1, st => cond (atReg st.1) st (match one P st.1 st.2 with | some st' => meet P n st' | none => st)
section rules
variable {P : Program} [Mixed P] {fn : Func} {Post : Spec} {st : List KI × S} {u m : PH}
theorem meet_sound : ∀ (n : Nat) (st : List KI × S), Sym P fn Post (meet P n st).1 (meet P n st).2 u m → Sym P fn Post st.1 st.2 u m
  | 0, st, h => h
  | n + 1, st, h => by
    unfold meet at h
    cases hn : atReg st.1 with
    | true => simp [hn] at h; exact h
    | false =>
      simp only [hn, cond_false] at h
      split at h
      · rename_i st' he
        obtain ⟨ks', s'⟩ := st'
        exact one_sound Mixed.mx he (meet_sound n _ h)
      · exact h
theorem G.canon (T : List (Nat × SV)) (B : List (Nat × Blk)) (h : noReg (meet P 200 st).1 = true) (hl : liveB T B = true) (h0 : Cov (meet P 200 st).2.n (meet P 200 st).2 T B) (k : G P fn Post ((meet P 200 st).1, S.of (meet P 200 st).2.n T B) u m) : G P fn Post st u m := by
  refine ⟨meet_sound 200 st ?_⟩
  have hk := k.out
  rw [Sym.ofNo h] at hk ⊢
  intro c ρ a w hm0 hr
  exact hk c ρ a w hm0 (hr.cov h0 hl)
theorem G.join {ι : Type} (b : Value) (T : ι → List (Nat × SV)) (B : ι → List (Nat × Blk)) (Inv : ι → PH → PH → Prop) (hl : ∀ i, liveB (T i) (B i) = true) (hn : noReg (meet P 200 (nx (adv P st) b)).1 = true)
    (tail : ∀ i u' m', PH.le u u' → Inv i u' m' → G P fn Post ((meet P 200 (nx (adv P st) b)).1, S.of (meet P 200 (nx (adv P st) b)).2.n (T i) (B i)) u' m')
    (k : (∀ i st' u' m', (meet P 200 st').1 = (meet P 200 (nx (adv P st) b)).1 → Cov (meet P 200 (nx (adv P st) b)).2.n (meet P 200 st').2 (T i) (B i) → PH.le u u' → Inv i u' m' → G P fn Post st' u' m') → G P fn Post st u m) : G P fn Post st u m := by
  refine k fun i st' u' m' h1 h2 h3 h4 => ?_
  have hc : Cov (meet P 200 st').2.n (meet P 200 st').2 (T i) (B i) := ⟨rfl, h2.t, h2.b⟩
  refine G.canon (T i) (B i) (by rw [h1]; exact hn) (hl i) hc ?_
  rw [h1, h2.n]
  exact tail i u' m' h3 h4
end rules
end Go.Proofs.YtpdboaedoimahaaGreatDoor
end
section
set_option linter.unusedSectionVars false
set_option linter.unusedVariables false
namespace Go.Proofs.YtpdboaedoimahaaGreatDoor
open Go.RowKit
theorem bl_asym {x y : List UInt8} (h : Op.bytesLess x y = true) : Op.bytesLess y x = false := by
  cases h' : Op.bytesLess y x with
  | false => rfl
  | true => have := bl_trans h h'; rw [bl_irr] at this; cases this
theorem bl_gt (x y : List UInt8) : (!(Op.bytesLess x y || decide (x = y))) = Op.bytesLess y x := by
  cases h1 : Op.bytesLess x y with
  | true => rw [bl_asym h1]; rfl
  | false =>
    by_cases e : x = y
    · subst e; rw [h1]; simp
    · cases h2 : Op.bytesLess y x with
      | true => simp [e]
      | false => exact absurd (bl_tri h1 h2) e
section rules
variable [Flag] {P : Program} [Mixed P] {fn : Func} {Post : Spec} {st : List KI × S} {u m : PH}
theorem G.ltS (a b : List UInt8) (r : Bool) (h : stopV P (adv P st) = .bin .lss (.string (mkS a)) (.string (mkS b))) (hr : Op.bytesLess a b = r) (k : G P fn Post (nx (adv P st) (.bool r)) u m) : G P fn Post st u m :=
  G.bin (.bool r) h (fun t X Y w => guard_str t X Y w) (fun t w => by simp only [binOp, Op.stringOp, mkS_toList]; rw [hr]; rfl) k
theorem G.gtS (a b : List UInt8) (r : Bool) (h : stopV P (adv P st) = .bin .gtr (.string (mkS a)) (.string (mkS b))) (hr : Op.bytesLess b a = r) (k : G P fn Post (nx (adv P st) (.bool r)) u m) : G P fn Post st u m :=
  G.bin (.bool r) h (fun t X Y w => guard_str t X Y w) (fun t w => by
    rw [← hr, ← bl_gt]
    simp only [binOp, Op.stringOp, mkS_toList]
    rw [show (a == b) = decide (a = b) from by by_cases e : a = b <;> simp [e]]
    rfl) k
end rules
section
variable [Flag] {u : PH}
theorem isNaNI0 (x : Int) : Fn0 Tryz.prog 143 [.int .i64 x] u fun v _ => v = .bool false := by
  refine Fn0.of Tryz.func143 (by kernel_rfl) (by kernel_rfl) ?_
  refine G.neqF x x (by kernel_rfl) (by omega) ?_
  exact G.ret (.bool false) (by kernel_rfl) ⟨rfl, rfl⟩
theorem isNaNS0 (x : List UInt8) : Fn0 Tryz.prog 144 [.string (mkS x)] u fun v _ => v = .bool false := by
  refine Fn0.of Tryz.func144 (by kernel_rfl) (by kernel_rfl) ?_
  refine G.neSF x x (by kernel_rfl) rfl ?_
  exact G.ret (.bool false) (by kernel_rfl) ⟨rfl, rfl⟩
theorem cmpI0 (x y : Int) : Fn0 Tryz.prog 80 [.int .i64 x, .int .i64 y] u fun v _ => v = .int .i64 (cmpI x y) := by
  refine Fn0.of Tryz.func80 (by kernel_rfl) (by kernel_rfl) ?_
  refine G.call0 _ _ (by kernel_rfl) Tryz.call143 (isNaNI0 x) ?_
  rintro v1 u1 l1 rfl
  refine G.call0 _ _ (by kernel_rfl) Tryz.call143 (isNaNI0 y) ?_
  rintro v2 u2 l2 rfl
  unfold cmpI
  by_cases h : x < y
  · refine G.lssT x y (by kernel_rfl) h ?_
    exact G.ret (.int .i64 (-1)) (by kernel_rfl) ⟨rfl, by rw [if_pos h]⟩
  · refine G.lssF x y (by kernel_rfl) h ?_
    by_cases h' : x > y
    · refine G.gtrT x y (by kernel_rfl) h' ?_
      exact G.ret (.int .i64 1) (by kernel_rfl) ⟨rfl, by rw [if_neg h, if_pos h']⟩
    · refine G.gtrF x y (by kernel_rfl) h' ?_
      exact G.ret (.int .i64 0) (by kernel_rfl) ⟨rfl, by rw [if_neg h, if_neg h']⟩
theorem cmpS0 (x y : List UInt8) : Fn0 Tryz.prog 81 [.string (mkS x), .string (mkS y)] u fun v _ => v = .int .i64 (cmpS x y) := by
  refine Fn0.of Tryz.func81 (by kernel_rfl) (by kernel_rfl) ?_
  refine G.call0 _ _ (by kernel_rfl) Tryz.call144 (isNaNS0 x) ?_
  rintro v1 u1 l1 rfl
  refine G.call0 _ _ (by kernel_rfl) Tryz.call144 (isNaNS0 y) ?_
  rintro v2 u2 l2 rfl
  unfold cmpS
  cases h : Op.bytesLess x y with
  | true =>
    refine G.ltS x y true (by kernel_rfl) h ?_
    exact G.ret (.int .i64 (-1)) (by kernel_rfl) ⟨rfl, by rw [if_pos rfl]⟩
  | false =>
    refine G.ltS x y false (by kernel_rfl) h ?_
    cases h' : Op.bytesLess y x with
    | true =>
      refine G.gtS x y true (by kernel_rfl) h' ?_
      exact G.ret (.int .i64 1) (by kernel_rfl) ⟨rfl, by rw [if_neg (by simp), if_neg (fun e => by subst e; rw [bl_irr] at h'; cases h')]⟩
    | false =>
      refine G.gtS x y false (by kernel_rfl) h' ?_
      exact G.ret (.int .i64 0) (by kernel_rfl) ⟨rfl, by rw [if_neg (by simp), if_pos (bl_tri h h')]⟩
theorem cmpOr0 (x y : Int) {b : Nat} (h : ElsP u b 0 1 [.int .i64 x, .int .i64 y]) : Fn0 Tryz.prog 79 [.slice (some ⟨b, 0, none⟩) 2 2] u fun v _ => v = .int .i64 (if x ≠ 0 then x else y) := by
  refine Fn0.of Tryz.func79 (by kernel_rfl) (by kernel_rfl) ?_
  refine G.loop (ι := Nat) (fun i => [(3, .v (.int .i64 0)), (6, .v (.slice (some ⟨b, 0, none⟩) 2 2)), (7, .v (.int .i64 ((2 : Nat) : Int))), (8, .v (.int .i64 (i : Int)))]) (fun _ => [])
    (fun i u' m' => i ≤ 2 ∧ m' = PH.mt ∧ (1 ≤ i → x = 0) ∧ (2 ≤ i → y = 0)) (fun i => 2 - i) 0 (by kernel_rfl) (fun _ => by kernel_rfl) ⟨by kernel_rfl, by kernel_rfl, by kernel_rfl⟩ ⟨by omega, rfl, by omega, by omega⟩ ?_
  rintro J i hJ u' m' hle ⟨hi, rfl, hx, hy⟩
  by_cases h2 : i = 2
  · subst h2
    refine G.lssF ((2 : Nat) : Int) ((2 : Nat) : Int) (by kernel_rfl) (by omega) ?_
    exact G.ret (.int .i64 0) (by kernel_rfl) ⟨rfl, by rw [if_neg (by simp [hx (by omega)]), hy (by omega)]⟩
  · refine G.lssT (i : Int) ((2 : Nat) : Int) (by kernel_rfl) (by omega) ?_
    refine G.addr b 0 2 2 i 1 (by kernel_rfl) (by omega) ?_
    obtain ⟨z, hz, h1, h2⟩ : ∃ z : Int, ElP u' b (0 + i * 1) (.int .i64 z) ∧ (z ≠ 0 → (if x ≠ 0 then x else y) = z) ∧ (z = 0 → (1 ≤ i + 1 → x = 0) ∧ (2 ≤ i + 1 → y = 0)) := by
      rcases (by omega : i = 0 ∨ i = 1) with rfl | rfl
      · exact ⟨x, (h 0 _ rfl).mono hle, fun hz => if_pos hz, fun hz => ⟨fun _ => hz, by omega⟩⟩
      · exact ⟨y, (h 1 _ rfl).mono hle, fun hz => if_neg (by simp [hx (by omega)]), fun hz => ⟨fun _ => hx (by omega), fun _ => hz⟩⟩
    refine G.loadU none b (0 + i * 1) (.int .i64 z) (by kernel_rfl) (by kernel_rfl) hz ?_
    by_cases h0 : z = 0
    · refine G.neqF z 0 (by kernel_rfl) (by omega) ?_
      refine G.add (i : Int) 1 ((i + 1 : Nat) : Int) (by kernel_rfl) (by omega) (by omega) (by omega) ?_
      exact G.back (by kernel_rfl) (hJ (i + 1) _ _ _ ⟨by kernel_rfl, by kernel_rfl, by kernel_rfl⟩ hle ⟨by omega, rfl, (h2 h0).1, (h2 h0).2⟩ (by omega))
    · refine G.neqT z 0 (by kernel_rfl) h0 ?_
      exact G.ret (.int .i64 z) (by kernel_rfl) ⟨rfl, by rw [h1 h0]⟩
theorem compare0 (p q : Par) : Fn0 Tryz.prog 38 [parV p, parV q] u fun v _ => v = .int .i64 (cmpP p q) := by
  refine Fn0.of Tryz.func38 (by kernel_rfl) (by kernel_rfl) ?_
  refine G.call0 _ _ (by kernel_rfl) Tryz.call80 (cmpI0 p.1 q.1) ?_
  rintro v1 u1 l1 rfl
  refine G.call0 _ _ (by kernel_rfl) Tryz.call81 (cmpS0 p.2 q.2) ?_
  rintro v2 u2 l2 rfl
  refine G.buildU 3 1 8 (.int .i64 0) [.int .i64 (cmpI p.1 q.1), .int .i64 (cmpS p.2 q.2)] (by kernel_rfl) (intsZ_ok [_, _]) rfl (by omega) (by simp) (by simp) ?_
  intro g u3 l3 e3
  refine G.call0 _ _ (by kernel_rfl) Tryz.call79 (cmpOr0 _ _ e3) ?_
  rintro v4 u4 l4 rfl
  exact G.ret _ (by kernel_rfl) ⟨rfl, rfl⟩
theorem comparePairs0 (p q : Par × Par) : Fn0 Tryz.prog 102 [prV p, prV q] u fun v _ => v = .int .i64 (cmpQ p q) := by
  refine Fn0.of Tryz.func102 (by kernel_rfl) (by kernel_rfl) ?_
  refine G.call0 _ _ (by kernel_rfl) Tryz.call38 (compare0 p.1 q.1) ?_
  rintro v1 u1 l1 rfl
  refine G.call0 _ _ (by kernel_rfl) Tryz.call38 (compare0 p.2 q.2) ?_
  rintro v2 u2 l2 rfl
  refine G.buildU 3 1 8 (.int .i64 0) [.int .i64 (cmpP p.1 q.1), .int .i64 (cmpP p.2 q.2)] (by kernel_rfl) (intsZ_ok [_, _]) rfl (by omega) (by simp) (by simp) ?_
  intro g u3 l3 e3
  refine G.call0 _ _ (by kernel_rfl) Tryz.call79 (cmpOr0 _ _ e3) ?_
  rintro v4 u4 l4 rfl
  exact G.ret _ (by kernel_rfl) ⟨rfl, rfl⟩
end
end Go.Proofs.YtpdboaedoimahaaGreatDoor
end
section
set_option linter.unusedSectionVars false
set_option linter.unusedVariables false
namespace Go.Proofs.YtpdboaedoimahaaGreatDoor
open Go.RowKit
abbrev SB (q : Rat) : Prop := smallB q = true
theorem SB.sz {q : Rat} (h : SB q) : Sz q 12 := (smallB_spec h).2
theorem SB.tx {q : Rat} (h : SB q) : Tx q := (smallB_spec h).1
theorem SB.big {q : Rat} (h : SB q) : Sz q 1000000000000 := h.sz.mono (by omega)
theorem SB.zero : SB 0 := by decide
abbrev fz : Value := .agg #[.bool false, .slice none 0 0, .bool false, .slice none 0 0]
theorem sgn0 {q : Rat} : sgn q.num = 0 ↔ q = 0 := by
  constructor
  · intro h
    have : q.num = 0 := by
      rcases Int.lt_trichotomy q.num 0 with h1 | h1 | h1
      · rw [sgn_neg h1] at h; cases h
      · exact h1
      · rw [sgn_pos h1] at h; cases h
    exact Rat.num_eq_zero.1 this
  · rintro rfl; rfl
theorem MapR.at {κ : Type} [DecidableEq κ] {enc : κ → Value} {R : PH → Value → Rat → Prop} {nz : Bool} {u : PH} {o : Obj} {f : κ → Rat} {N s : Nat} (h : MapR enc R nz u o f N s) : ∃ l : List (κ × Value), MapO enc o l ∧ (∀ p ∈ l, R u p.2 (f p.1) ∧ (nz = true → f p.1 ≠ 0) ∧ Sz (f p.1) s) ∧ (∀ k, k ∉ l.map (·.1) → f k = 0) ∧ l.length ≤ N := h
theorem MapR.mf {κ : Type} [DecidableEq κ] {enc : κ → Value} {nz : Bool} {u u' : PH} {o : Obj} {f : κ → Rat} {N s : Nat} (h : MapR enc FracP nz u o f N s) (hl : PH.le u u') : MapR enc FracP nz u' o f N s := by
  obtain ⟨l, h1, h2, h3, h4⟩ := h
  exact ⟨l, h1, fun p hp => ⟨(h2 p hp).1.mono hl, (h2 p hp).2⟩, h3, h4⟩
set_option maxHeartbeats 1000000 in
theorem notePar0 {u : PH} {g : Nat} {o : Obj} {f : Par → Rat} {N : Nat} {a : Par} {x : Value} {q : Rat} (h : MapR parV FracP true u o f N 12) (hx : FracP u x q) (hq : SB q) (hf : SB (f a)) (hs : SB (q + f a)) :
    Contract Tryz.prog 151 [.map (some g), parV a, x] u (blk1 g o) fun v u' m' => ∃ o', m' = blk1 g o' ∧ MapR parV FracP true u' o' (setF f a (q + f a)) (N + 1) 12 := by
  obtain ⟨l, ho, h2, h3, h4⟩ := h.at
  obtain ⟨b, aa, n, c, b', a', n', c', rfl⟩ := hx.opn
  refine Contract.of Tryz.func151 (by kernel_rfl) (by kernel_rfl) ?_
  have tail : ∀ (u1 : PH) (y : Value), PH.le u u1 → FracP u1 y (q + f a) →
      (∀ o', MapO parV o' (delK a l) → q + f a = 0 → MapR parV FracP true u1 o' (setF f a (q + f a)) (N + 1) 12) ∧ (∀ o', MapO parV o' (putK a y l) → q + f a ≠ 0 → MapR parV FracP true u1 o' (setF f a (q + f a)) (N + 1) 12) := fun u1 y hl hy =>
    ⟨fun o' ho' h0 => by
      rw [h0]
      exact (MapR.drop ho (fun p hp => ⟨(h2 p hp).1.mono hl, (h2 p hp).2⟩) h3 h4 ho').up (by omega) (Nat.le_refl _),
     fun o' ho' h0 => MapR.put ho (fun p hp => ⟨(h2 p hp).1.mono hl, (h2 p hp).2⟩) h3 h4 ho' hy (fun _ => h0) hs.sz (Nat.le_refl _)⟩
  cases hx' : assoc a l with
  | none =>
    have hf0 : f a = 0 := h3 a (assoc_none.1 hx')
    have e0 : q + f a = q := by rw [hf0]; grind
    refine G.mapNot (et := 109) keyPar fz g o l a (by kernel_rfl) (by kernel_rfl) (.inr (blk1_same _ _)) ho hx' ?_
    refine G.call0 _ _ (by kernel_rfl) Tryz.call156 (fracSign0 hx (Nat.le_trans hq.sz.1 (by omega))) ?_
    rintro v1 u1 l1 rfl
    obtain ⟨t1, t2⟩ := tail u1 _ l1 (by rw [e0]; exact hx.mono l1)
    by_cases hq0 : q = 0
    · refine G.eqlT (sgn q.num) 0 (by kernel_rfl) (sgn0.2 hq0) ?_
      refine G.mapDel (et := 109) keyPar 110 g o l a 55 (by kernel_rfl) (by kernel_rfl) (by kernel_rfl) (blk1_same _ _) ho ?_
      intro o' ho'
      exact G.ret (.tuple #[]) (by kernel_rfl) ⟨o', upd_upd _ _ _ _, t1 o' ho' (by rw [e0]; exact hq0)⟩
    · refine G.eqlF (sgn q.num) 0 (by kernel_rfl) (fun e => hq0 (sgn0.1 e)) ?_
      refine G.mapPut (et := 109) keyPar g o l a (.agg #[.bool b, .slice aa n c, .bool b', .slice a' n' c']) (by kernel_rfl) (by kernel_rfl) (blk1_same _ _) ho ?_
      intro o' ho'
      exact G.ret (.tuple #[]) (by kernel_rfl) ⟨o', upd_upd _ _ _ _, t2 o' ho' (by rw [e0]; exact hq0)⟩
  | some xv =>
    obtain ⟨hr, _, _⟩ := h2 _ (assoc_mem hx')
    obtain ⟨b1, a1, n1, c1, b1', a1', n1', c1', rfl⟩ := hr.opn
    refine G.mapHas (et := 109) keyPar fz g o l a (.agg #[.bool b1, .slice a1 n1 c1, .bool b1', .slice a1' n1' c1']) (by kernel_rfl) (by kernel_rfl) (.inr (blk1_same _ _)) ho hx' ?_
    refine G.call0 _ _ (by kernel_rfl) Tryz.call90 (fracAdd0 hx hr hq.big hf.big) ?_
    intro v1 u1 l1 k1
    obtain ⟨b2, a2, n2, c2, b2', a2', n2', c2', rfl⟩ := k1.opn
    refine G.call0 _ _ (by kernel_rfl) Tryz.call156 (fracSign0 k1 (Nat.le_trans hs.sz.1 (by omega))) ?_
    rintro v2 u2 l2 rfl
    obtain ⟨t1, t2⟩ := tail u2 _ (l1.trans l2) (k1.mono l2)
    by_cases hq0 : q + f a = 0
    · refine G.eqlT (sgn (q + f a).num) 0 (by kernel_rfl) (sgn0.2 hq0) ?_
      refine G.mapDel (et := 109) keyPar 110 g o l a 55 (by kernel_rfl) (by kernel_rfl) (by kernel_rfl) (blk1_same _ _) ho ?_
      intro o' ho'
      exact G.ret (.tuple #[]) (by kernel_rfl) ⟨o', upd_upd _ _ _ _, t1 o' ho' hq0⟩
    · refine G.eqlF (sgn (q + f a).num) 0 (by kernel_rfl) (fun e => hq0 (sgn0.1 e)) ?_
      refine G.mapPut (et := 109) keyPar g o l a (.agg #[.bool b2, .slice a2 n2 c2, .bool b2', .slice a2' n2' c2']) (by kernel_rfl) (by kernel_rfl) (blk1_same _ _) ho ?_
      intro o' ho'
      exact G.ret (.tuple #[]) (by kernel_rfl) ⟨o', upd_upd _ _ _ _, t2 o' ho' hq0⟩
set_option maxHeartbeats 1000000 in
theorem notePr0 {u : PH} {g : Nat} {o : Obj} {f : (Par × Par) → Rat} {N : Nat} {a : (Par × Par)} {x : Value} {q : Rat} (h : MapR prV FracP true u o f N 12) (hx : FracP u x q) (hq : SB q) (hf : SB (f a)) (hs : SB (q + f a)) :
    Contract Tryz.prog 91 [.map (some g), prV a, x] u (blk1 g o) fun v u' m' => ∃ o', m' = blk1 g o' ∧ MapR prV FracP true u' o' (setF f a (q + f a)) (N + 1) 12 := by
  obtain ⟨l, ho, h2, h3, h4⟩ := h.at
  obtain ⟨b, aa, n, c, b', a', n', c', rfl⟩ := hx.opn
  refine Contract.of Tryz.func91 (by kernel_rfl) (by kernel_rfl) ?_
  have tail : ∀ (u1 : PH) (y : Value), PH.le u u1 → FracP u1 y (q + f a) →
      (∀ o', MapO prV o' (delK a l) → q + f a = 0 → MapR prV FracP true u1 o' (setF f a (q + f a)) (N + 1) 12) ∧ (∀ o', MapO prV o' (putK a y l) → q + f a ≠ 0 → MapR prV FracP true u1 o' (setF f a (q + f a)) (N + 1) 12) := fun u1 y hl hy =>
    ⟨fun o' ho' h0 => by
      rw [h0]
      exact (MapR.drop ho (fun p hp => ⟨(h2 p hp).1.mono hl, (h2 p hp).2⟩) h3 h4 ho').up (by omega) (Nat.le_refl _),
     fun o' ho' h0 => MapR.put ho (fun p hp => ⟨(h2 p hp).1.mono hl, (h2 p hp).2⟩) h3 h4 ho' hy (fun _ => h0) hs.sz (Nat.le_refl _)⟩
  cases hx' : assoc a l with
  | none =>
    have hf0 : f a = 0 := h3 a (assoc_none.1 hx')
    have e0 : q + f a = q := by rw [hf0]; grind
    refine G.mapNot (et := 109) keyPr fz g o l a (by kernel_rfl) (by kernel_rfl) (.inr (blk1_same _ _)) ho hx' ?_
    refine G.call0 _ _ (by kernel_rfl) Tryz.call156 (fracSign0 hx (Nat.le_trans hq.sz.1 (by omega))) ?_
    rintro v1 u1 l1 rfl
    obtain ⟨t1, t2⟩ := tail u1 _ l1 (by rw [e0]; exact hx.mono l1)
    by_cases hq0 : q = 0
    · refine G.eqlT (sgn q.num) 0 (by kernel_rfl) (sgn0.2 hq0) ?_
      refine G.mapDel (et := 109) keyPr 111 g o l a 163 (by kernel_rfl) (by kernel_rfl) (by kernel_rfl) (blk1_same _ _) ho ?_
      intro o' ho'
      exact G.ret (.tuple #[]) (by kernel_rfl) ⟨o', upd_upd _ _ _ _, t1 o' ho' (by rw [e0]; exact hq0)⟩
    · refine G.eqlF (sgn q.num) 0 (by kernel_rfl) (fun e => hq0 (sgn0.1 e)) ?_
      refine G.mapPut (et := 109) keyPr g o l a (.agg #[.bool b, .slice aa n c, .bool b', .slice a' n' c']) (by kernel_rfl) (by kernel_rfl) (blk1_same _ _) ho ?_
      intro o' ho'
      exact G.ret (.tuple #[]) (by kernel_rfl) ⟨o', upd_upd _ _ _ _, t2 o' ho' (by rw [e0]; exact hq0)⟩
  | some xv =>
    obtain ⟨hr, _, _⟩ := h2 _ (assoc_mem hx')
    obtain ⟨b1, a1, n1, c1, b1', a1', n1', c1', rfl⟩ := hr.opn
    refine G.mapHas (et := 109) keyPr fz g o l a (.agg #[.bool b1, .slice a1 n1 c1, .bool b1', .slice a1' n1' c1']) (by kernel_rfl) (by kernel_rfl) (.inr (blk1_same _ _)) ho hx' ?_
    refine G.call0 _ _ (by kernel_rfl) Tryz.call90 (fracAdd0 hx hr hq.big hf.big) ?_
    intro v1 u1 l1 k1
    obtain ⟨b2, a2, n2, c2, b2', a2', n2', c2', rfl⟩ := k1.opn
    refine G.call0 _ _ (by kernel_rfl) Tryz.call156 (fracSign0 k1 (Nat.le_trans hs.sz.1 (by omega))) ?_
    rintro v2 u2 l2 rfl
    obtain ⟨t1, t2⟩ := tail u2 _ (l1.trans l2) (k1.mono l2)
    by_cases hq0 : q + f a = 0
    · refine G.eqlT (sgn (q + f a).num) 0 (by kernel_rfl) (sgn0.2 hq0) ?_
      refine G.mapDel (et := 109) keyPr 111 g o l a 163 (by kernel_rfl) (by kernel_rfl) (by kernel_rfl) (blk1_same _ _) ho ?_
      intro o' ho'
      exact G.ret (.tuple #[]) (by kernel_rfl) ⟨o', upd_upd _ _ _ _, t1 o' ho' hq0⟩
    · refine G.eqlF (sgn (q + f a).num) 0 (by kernel_rfl) (fun e => hq0 (sgn0.1 e)) ?_
      refine G.mapPut (et := 109) keyPr g o l a (.agg #[.bool b2, .slice a2 n2 c2, .bool b2', .slice a2' n2' c2']) (by kernel_rfl) (by kernel_rfl) (blk1_same _ _) ho ?_
      intro o' ho'
      exact G.ret (.tuple #[]) (by kernel_rfl) ⟨o', upd_upd _ _ _ _, t2 o' ho' hq0⟩
def MomM (m' u : PH) (v : Value) (F : CF) (N : Nat) : Prop :=
  ∃ b a n c b' a' n' c' g1 g2 o1 o2, v = .agg #[.bool b, .slice a n c, .bool b', .slice a' n' c', .map (some g1), .map (some g2)] ∧ FracP u (.agg #[.bool b, .slice a n c, .bool b', .slice a' n' c']) F.c ∧ g1 ≠ g2 ∧ m' = (PH.mt.upd g1 o1).upd g2 o2 ∧ MapR parV FracP true u o1 F.s N 12 ∧ MapR prV FracP true u o2 F.t N 12
def MomP (u : PH) (v : Value) (F : CF) (N : Nat) : Prop :=
  ∃ b a n c b' a' n' c' g1 g2 o1 o2, v = .agg #[.bool b, .slice a n c, .bool b', .slice a' n' c', .map (some g1), .map (some g2)] ∧ FracP u (.agg #[.bool b, .slice a n c, .bool b', .slice a' n' c']) F.c ∧ u g1 = some o1 ∧ u g2 = some o2 ∧ MapR parV FracP true u o1 F.s N 12 ∧ MapR prV FracP true u o2 F.t N 12
theorem MomP.mono {u u' : PH} {v : Value} {F : CF} {N : Nat} (h : MomP u v F N) (hl : PH.le u u') : MomP u' v F N := by
  obtain ⟨b, a, n, c, b', a', n', c', g1, g2, o1, o2, e, h1, h2, h3, h4, h5⟩ := h
  exact ⟨b, a, n, c, b', a', n', c', g1, g2, o1, o2, e, h1.mono hl, hl _ _ h2, hl _ _ h3, h4.mf hl, h5.mf hl⟩
theorem MomM.give {m' u u' : PH} {v : Value} {F : CF} {N : Nat} (h : MomM m' u v F N) (hl : PH.le u u') (hm : PH.le m' u') : MomP u' v F N := by
  obtain ⟨b, a, n, c, b', a', n', c', g1, g2, o1, o2, e, h1, h2, rfl, h4, h5⟩ := h
  exact ⟨b, a, n, c, b', a', n', c', g1, g2, o1, o2, e, h1.mono hl, hm _ _ (by rw [upd_ne _ _ h2, upd_same]), hm _ _ (upd_same _ _ _), h4.mf hl, h5.mf hl⟩
theorem MomM.congr {m' u : PH} {v : Value} {F F' : CF} {N N' : Nat} (h : MomM m' u v F N) (e : F = F') (hN : N ≤ N') : MomM m' u v F' N' := by
  subst e
  obtain ⟨b, a, n, c, b', a', n', c', g1, g2, o1, o2, e, h1, h2, h3, h4, h5⟩ := h
  exact ⟨b, a, n, c, b', a', n', c', g1, g2, o1, o2, e, h1, h2, h3, h4.up hN (Nat.le_refl _), h5.up hN (Nat.le_refl _)⟩
theorem pair0 {u : PH} (p q : Par) : Fn0 Tryz.prog 92 [parV p, parV q] u fun v _ => v = prV (pairP p q) := by
  refine Fn0.of Tryz.func92 (by kernel_rfl) (by kernel_rfl) ?_
  refine G.call0 _ _ (by kernel_rfl) Tryz.call38 (compare0 p q) ?_
  rintro v1 u1 l1 rfl
  by_cases h : 0 < cmpP p q
  · refine G.gtrT (cmpP p q) 0 (by kernel_rfl) h ?_
    refine G.ret (prV (q, p)) (by kernel_rfl) ⟨rfl, ?_⟩
    rw [pairP_gt h]
  · refine G.gtrF (cmpP p q) 0 (by kernel_rfl) h ?_
    refine G.ret (prV (p, q)) (by kernel_rfl) ⟨rfl, ?_⟩
    rw [pairP_le h]
theorem whole0 {u : PH} {n : Int} (h1 : -9223372036854775808 ≤ n) (h2 : n ≤ 9223372036854775807) : Contract Tryz.prog 47 [.int .i64 n] u PH.mt fun v u' m' => MomM m' u' v ⟨(n : Rat), fun _ => 0, fun _ => 0⟩ 0 := by
  refine Contract.of Tryz.func47 (by kernel_rfl) (by kernel_rfl) ?_
  refine G.call0 _ _ (by kernel_rfl) Tryz.call86 (fracOf0 h1 h2) ?_
  intro v1 u1 l1 k1
  obtain ⟨b, a, nn, c, b', a', n', c', rfl⟩ := k1.opn
  refine G.mapMk (by kernel_rfl) ?_
  intro g1 hm1 hu1
  refine G.mapMk (by kernel_rfl) ?_
  intro g2 hm2 hu2
  have hne : g1 ≠ g2 := fun e => by subst e; rw [upd_same] at hm2; cases hm2
  exact G.ret (.agg #[.bool b, .slice a nn c, .bool b', .slice a' n' c', .map (some g1), .map (some g2)]) (by kernel_rfl) ⟨b, a, nn, c, b', a', n', c', g1, g2, _, _, rfl, k1, hne, rfl, MapR.empty 12, MapR.empty 12⟩
end Go.Proofs.YtpdboaedoimahaaGreatDoor
end
section
set_option linter.unusedSectionVars false
set_option linter.unusedVariables false
namespace Go.Proofs.YtpdboaedoimahaaGreatDoor
open Go.RowKit Go.MapKept
abbrev valL (b : Bool) (a : Option Addr) (n c : Nat) (b' : Bool) (a' : Option Addr) (n' c' g1 g2 : Nat) : List Value := [.bool b, .slice a n c, .bool b', .slice a' n' c', .map (some g1), .map (some g2)]
def valC (b : Bool) (a : Option Addr) (n c : Nat) (b' : Bool) (a' : Option Addr) (n' c' g1 g2 : Nat) : Obj := .cells (valL b a n c b' a' n' c' g1 g2).toArray 113 (0, 0)
theorem valC_0 {m : PH} {x : Nat} {b : Bool} {a : Option Addr} {n c : Nat} {b' : Bool} {a' : Option Addr} {n' c' g1 g2 : Nat} (h : m x = some (valC b a n c b' a' n' c' g1 g2)) : ElP m x (0 + 0) (.agg #[.bool b, .slice a n c, .bool b', .slice a' n' c']) := fun i y hy => by
  match i, hy with
  | 0, hy => exact ⟨_, _, _, h, by simpa [Value.cells] using hy⟩
  | 1, hy => exact ⟨_, _, _, h, by simpa [Value.cells] using hy⟩
  | 2, hy => exact ⟨_, _, _, h, by simpa [Value.cells] using hy⟩
  | 3, hy => exact ⟨_, _, _, h, by simpa [Value.cells] using hy⟩
  | k + 4, hy => simp [Value.cells] at hy
theorem valC_4 {m : PH} {x : Nat} {b : Bool} {a : Option Addr} {n c : Nat} {b' : Bool} {a' : Option Addr} {n' c' g1 g2 : Nat} (h : m x = some (valC b a n c b' a' n' c' g1 g2)) : ElP m x (0 + 4) (.map (some g1)) := fun i y hy => by
  match i, hy with
  | 0, hy => exact ⟨_, _, _, h, by simpa [Value.cells] using hy⟩
  | k + 1, hy => simp [Value.cells] at hy
theorem valC_5 {m : PH} {x : Nat} {b : Bool} {a : Option Addr} {n c : Nat} {b' : Bool} {a' : Option Addr} {n' c' g1 g2 : Nat} (h : m x = some (valC b a n c b' a' n' c' g1 g2)) : ElP m x (0 + 5) (.map (some g2)) := fun i y hy => by
  match i, hy with
  | 0, hy => exact ⟨_, _, _, h, by simpa [Value.cells] using hy⟩
  | k + 1, hy => simp [Value.cells] at hy
theorem valC_all {m : PH} {x : Nat} {b : Bool} {a : Option Addr} {n c : Nat} {b' : Bool} {a' : Option Addr} {n' c' g1 g2 : Nat} (h : m x = some (valC b a n c b' a' n' c' g1 g2)) : ElP m x 0 (.agg #[.bool b, .slice a n c, .bool b', .slice a' n' c', .map (some g1), .map (some g2)]) := fun i y hy => by
  match i, hy with
  | 0, hy => exact ⟨_, _, _, h, by simpa [Value.cells] using hy⟩
  | 1, hy => exact ⟨_, _, _, h, by simpa [Value.cells] using hy⟩
  | 2, hy => exact ⟨_, _, _, h, by simpa [Value.cells] using hy⟩
  | 3, hy => exact ⟨_, _, _, h, by simpa [Value.cells] using hy⟩
  | 4, hy => exact ⟨_, _, _, h, by simpa [Value.cells] using hy⟩
  | 5, hy => exact ⟨_, _, _, h, by simpa [Value.cells] using hy⟩
  | k + 6, hy => simp [Value.cells] at hy
theorem valL_ok {b : Bool} {a : Option Addr} {n c : Nat} {b' : Bool} {a' : Option Addr} {n' c' g1 g2 : Nat} : ∀ x ∈ valL b a n c b' a' n' c' g1 g2, cellOK x = true := fun x hx => by
  simp at hx; rcases hx with rfl | rfl | rfl | rfl | rfl | rfl <;> rfl
def M3 (bx g1 g2 : Nat) (x o1 o2 : Obj) : PH := ((PH.mt.upd g1 o1).upd g2 o2).upd bx x
theorem M3_le {bx g1 g2 : Nat} {x o1 o2 : Obj} {m : PH} (h0 : m bx = some x) (h1 : m g1 = some o1) (h2 : m g2 = some o2) : PH.le (M3 bx g1 g2 x o1 o2) m := fun g o hg => by
  unfold M3 at hg
  by_cases e : g = bx
  · subst e; rw [upd_same] at hg; cases hg; exact h0
  · rw [upd_ne _ _ e] at hg
    by_cases e : g = g2
    · subst e; rw [upd_same] at hg; cases hg; exact h2
    · rw [upd_ne _ _ e] at hg
      by_cases e : g = g1
      · subst e; rw [upd_same] at hg; cases hg; exact h1
      · rw [upd_ne _ _ e] at hg; cases hg
def MomB (bx : Nat) (m u : PH) (F : CF) (N : Nat) : Prop :=
  ∃ b a n c b' a' n' c' g1 g2 o1 o2, bx ≠ g1 ∧ bx ≠ g2 ∧ g1 ≠ g2 ∧ m = M3 bx g1 g2 (valC b a n c b' a' n' c' g1 g2) o1 o2 ∧ FracP u (.agg #[.bool b, .slice a n c, .bool b', .slice a' n' c']) F.c ∧ MapR parV FracP true u o1 F.s N 12 ∧ MapR prV FracP true u o2 F.t N 12
section
variable {κ : Type} [DecidableEq κ]
def addL (f g : κ → Rat) (q : Rat) (L : List κ) : κ → Rat := fun k => if k ∈ L then g k * q + f k else f k
theorem addL_snoc (f g : κ → Rat) (q : Rat) {L : List κ} {k : κ} (h : k ∉ L) : setF (addL f g q L) k (g k * q + addL f g q L k) = addL f g q (L ++ [k]) := by
  funext j
  unfold setF addL
  by_cases e : j = k
  · subst e; rw [if_pos rfl, if_neg h, if_pos (by simp)]
  · rw [if_neg e]
    by_cases hj : j ∈ L
    · rw [if_pos hj, if_pos (by simp [hj])]
    · rw [if_neg hj, if_neg (by simp [hj, e])]
theorem addL_all (f g : κ → Rat) (q : Rat) {L : List κ} (h : ∀ k, k ∉ L → g k = 0) : addL f g q L = fun k => f k + g k * q := by
  funext k
  unfold addL
  by_cases hk : k ∈ L
  · rw [if_pos hk]; grind
  · rw [if_neg hk, h k hk]; grind
theorem addL_sb {f g : κ → Rat} {q : Rat} {L : List κ} (h1 : ∀ k, SB (f k)) (h2 : ∀ k, SB (f k + g k * q)) (k : κ) : SB (addL f g q L k) := by
  unfold addL
  split
  · rw [Rat.add_comm]; exact h2 k
  · exact h1 k
end
set_option maxHeartbeats 4000000 in
theorem include0 {u m : PH} {bx : Nat} {F H : CF} {N M : Nat} {w kv : Value} {q : Rat} (hm : MomB bx m u F N) (hw : MomP u w H M) (hk : FracP u kv q) (hq : SB q) (sF : CFS F) (sH : CFS H) (sK : CFS (H.scale q)) (sR : CFS (F.add (H.scale q))) :
    Contract Tryz.prog 88 [.pointer (some ⟨bx, 0, none⟩), w, kv] u m fun v u' m' => MomB bx m' u' (F.add (H.scale q)) (N + M) := by
  obtain ⟨b, a, n, c, b', a', n', c', g1, g2, o1, o2, ne1, ne2, ne3, rfl, hF, h1, h2⟩ := hm
  obtain ⟨wb, wa, wn, wc, wb', wa', wn', wc', w1, w2, p1, p2, rfl, hH, e1, e2, k1, k2⟩ := hw
  obtain ⟨kb, ka, kn, kc, kb', ka', kn', kc', rfl⟩ := hk.opn
  obtain ⟨l1, ⟨es1, clk1, rfl, hkv1, hst1⟩, hl1, hz1, hn1⟩ := k1.at
  obtain ⟨l2, ⟨es2, clk2, rfl, hkv2, hst2⟩, hl2, hz2, hn2⟩ := k2.at
  have hnd1 : (l1.map (·.1)).Nodup := MapO.nodup (enc := parV) ⟨es1, clk1, rfl, hkv1, hst1⟩
  have hnd2 : (l2.map (·.1)).Nodup := MapO.nodup (enc := prV) ⟨es2, clk2, rfl, hkv2, hst2⟩
  refine Contract.of Tryz.func88 (by kernel_rfl) (by kernel_rfl) ?_
  refine G.fieldA 113 bx 0 0 0 (by kernel_rfl) (by kernel_rfl) ?_
  refine G.loadM (some 4) bx (0 + 0) (.agg #[.bool b, .slice a n c, .bool b', .slice a' n' c']) (by kernel_rfl) (by kernel_rfl) (valC_0 (upd_same _ _ _)) ?_
  refine G.call0 _ _ (by kernel_rfl) Tryz.call89 (fracMul0 hH hk (SB.big sH.c) hq.big) ?_
  intro v1 u1 le1 r1
  obtain ⟨b1, a1, x1, c1, b1', a1', x1', c1', rfl⟩ := r1.opn
  refine G.call0 _ _ (by kernel_rfl) Tryz.call90 (fracAdd0 (hF.mono le1) r1 (SB.big sF.c) (SB.big sK.c)) ?_
  intro v2 u2 le2 r2
  obtain ⟨b2, a2, x2, c2, b2', a2', x2', c2', rfl⟩ := r2.opn
  refine G.fieldA 113 bx 0 0 0 (by kernel_rfl) (by kernel_rfl) ?_
  refine G.storeM 4 bx (0 + 0) 113 (valL b a n c b' a' n' c' g1 g2) (.agg #[.bool b2, .slice a2 x2 c2, .bool b2', .slice a2' x2' c2']) (by kernel_rfl) (upd_same _ _ _) valL_ok (by simp) rfl rfl ?_
  obtain ⟨m2, hm2, hb2, hg2, hh2⟩ : ∃ m2 : PH, m2 = (M3 bx g1 g2 (valC b a n c b' a' n' c' g1 g2) o1 o2).upd bx (valC b2 a2 x2 c2 b2' a2' x2' c2' g1 g2) ∧ m2 bx = some (valC b2 a2 x2 c2 b2' a2' x2' c2' g1 g2) ∧ m2 g1 = some o1 ∧ m2 g2 = some o2 :=
    ⟨_, rfl, upd_same _ _ _, by rw [upd_ne _ _ (Ne.symm ne1)]; unfold M3; rw [upd_ne _ _ (Ne.symm ne1), upd_ne _ _ ne3, upd_same], by rw [upd_ne _ _ (Ne.symm ne2)]; unfold M3; rw [upd_ne _ _ (Ne.symm ne2), upd_same]⟩
  show G _ _ _ _ _ ((M3 bx g1 g2 (valC b a n c b' a' n' c' g1 g2) o1 o2).upd bx (valC b2 a2 x2 c2 b2' a2' x2' c2' g1 g2))
  rw [← hm2]
  have le12 := le1.trans le2
  refine G.mapRange w1 es1 clk1 55 109 (by kernel_rfl) (.inl (le12 _ _ e1)) ?_
  intro it him hiu
  have ib : bx ≠ it := fun e => by subst e; rw [him] at hb2; cases hb2
  have i1 : g1 ≠ it := fun e => by subst e; rw [him] at hg2; cases hg2
  have i2 : g2 ≠ it := fun e => by subst e; rw [him] at hh2; cases hh2
  refine G.loop (ι := List MapEntry × List (Par × Value)) (fun _ => [(0, .v (.pointer (some ⟨bx, 0, none⟩))), (4, .p 0 0), (5, .p 1 0), (24, .v (.pointer (some ⟨it, 0, none⟩)))])
    (fun _ => [(0, ⟨113, [.v (.bool wb), .v (.slice wa wn wc), .v (.bool wb'), .v (.slice wa' wn' wc'), .v (.map (some w1)), .v (.map (some w2))]⟩), (1, ⟨109, [.v (.bool kb), .v (.slice ka kn kc), .v (.bool kb'), .v (.slice ka' kn' kc')]⟩)])
    (fun i u' m' => Seen parV es1 l1 i.1 i.2 ∧ m' it = some (.mapIter (some w1) clk1 (seenOf i.1) clk1) ∧ m' bx = some (valC b2 a2 x2 c2 b2' a2' x2' c2' g1 g2) ∧ m' g2 = some o2 ∧ ∃ o1', m' g1 = some o1' ∧ MapR parV FracP true u' o1' (addL F.s H.s q (i.2.map (·.1))) (N + i.2.length) 12)
    (fun i => l1.length - i.2.length) ([], []) (by kernel_rfl) (fun _ => by kernel_rfl) ⟨by kernel_rfl, by kernel_rfl, by kernel_rfl⟩
    ⟨Seen.nil _ _, upd_same _ _ _, by rw [upd_ne _ _ ib]; exact hb2, by rw [upd_ne _ _ i2]; exact hh2, o1, by rw [upd_ne _ _ i1]; exact hg2, by
      have : addL F.s H.s q (([] : List (Par × Value)).map (·.1)) = F.s := by funext k; simp [addL]
      dsimp only; rw [this]; exact h1.mf le12⟩ ?_
  rintro J ⟨D, L⟩ hJ u3 m3 le3 ⟨hS, hit, hbx, hm2g, o1', hg1, hR⟩
  simp only at hS hit hbx hm2g hg1 hR hJ
  have le13 := le12.trans le3
  refine G.mapNextL keyPar.inj it w1 es1 clk1 l1 D L (by kernel_rfl) (by kernel_rfl) hit (.inl (le13 _ _ e1)) hst1 hkv1 hnd1 hS ?done1 ?next1
  case next1 =>
    rintro ⟨k, xv⟩ e hp hkn he hek hev hS'
    simp only at hkn hek hev
    have hx := (hl1 _ hp).1
    simp only at hx
    obtain ⟨yb, ya, yn, yc, yb', ya', yn', yc', rfl⟩ := hx.opn
    refine G.mapEntry it w1 es1 clk1 D e (by kernel_rfl) (upd_same _ _ _) (.inl (le13 _ _ e1)) hst1 he ?_
    rw [hek, hev]
    refine G.fieldA 113 bx 0 1 4 (by kernel_rfl) (by kernel_rfl) ?_
    refine G.loadM none bx (0 + 4) (.map (some g1)) (by kernel_rfl) (by kernel_rfl) (valC_4 (by rw [upd_ne _ _ ib]; exact hbx)) ?_
    refine G.call0 _ _ (by kernel_rfl) Tryz.call89 (fracMul0 (hx.mono le13) (hk.mono le13) (SB.big (sH.s k)) hq.big) ?_
    intro v4 u4 le4 r4
    obtain ⟨b4, a4, x4, c4, b4', a4', x4', c4', rfl⟩ := r4.opn
    refine G.callG _ _ (by kernel_rfl) (by kernel_rfl) Tryz.call151 (g := g1) (o := o1') (by rw [upd_ne _ _ i1]; exact hg1)
      (notePar0 (hR.mf le4) r4 (sK.s k) (addL_sb sF.s sR.s k) (by
        have : addL F.s H.s q (L.map (·.1)) k = F.s k := by unfold addL; rw [if_neg hkn]
        rw [this, Rat.add_comm]; exact sR.s k)) ?_
    intro v5 u5 o5 le5 r5
    rw [addL_snoc _ _ _ hkn] at r5
    refine G.back (by kernel_rfl) (hJ (D ++ [e], L ++ [(k, _)]) _ _ _ ⟨by kernel_rfl, by kernel_rfl, by kernel_rfl⟩ ((le3.trans le4).trans le5)
      ⟨hS', by rw [upd_ne _ _ (Ne.symm i1), upd_same], by rw [upd_ne _ _ ne1, upd_ne _ _ ib]; exact hbx, by rw [upd_ne _ _ (Ne.symm ne3), upd_ne _ _ i2]; exact hm2g, o5, upd_same _ _ _, by
        simpa [Nat.add_assoc] using r5⟩ (by have := hS'.len; simp at this; dsimp only; simp; omega))
  case done1 =>
  intro hall
  have hF1 : addL F.s H.s q (L.map (·.1)) = (F.add (H.scale q)).s := addL_all _ _ _ fun k hk => hz1 k fun hm => hk (by
    obtain ⟨p, hp, rfl⟩ := List.mem_map.1 hm
    exact List.mem_map.2 ⟨p, hall p hp, rfl⟩)
  rw [hF1] at hR
  have hLl := hS.len
  refine G.mapRange w2 es2 clk2 163 109 (by kernel_rfl) (.inl (le13 _ _ e2)) ?_
  intro it2 him2 hiu2
  have jb : bx ≠ it2 := fun e => by subst e; rw [him2] at hbx; cases hbx
  have j1 : g1 ≠ it2 := fun e => by subst e; rw [him2] at hg1; cases hg1
  have j2 : g2 ≠ it2 := fun e => by subst e; rw [him2] at hm2g; cases hm2g
  refine G.loop (ι := List MapEntry × List ((Par × Par) × Value)) (fun _ => [(0, .v (.pointer (some ⟨bx, 0, none⟩))), (5, .p 1 0), (41, .v (.pointer (some ⟨it2, 0, none⟩)))])
    (fun _ => [(1, ⟨109, [.v (.bool kb), .v (.slice ka kn kc), .v (.bool kb'), .v (.slice ka' kn' kc')]⟩)])
    (fun i u' m' => Seen prV es2 l2 i.1 i.2 ∧ m' it2 = some (.mapIter (some w2) clk2 (seenOf i.1) clk2) ∧ m' bx = some (valC b2 a2 x2 c2 b2' a2' x2' c2' g1 g2) ∧ m' g1 = some o1' ∧ ∃ o2', m' g2 = some o2' ∧ MapR prV FracP true u' o2' (addL F.t H.t q (i.2.map (·.1))) (N + i.2.length) 12)
    (fun i => l2.length - i.2.length) ([], []) (by kernel_rfl) (fun _ => by kernel_rfl) ⟨by kernel_rfl, by kernel_rfl, by kernel_rfl⟩
    ⟨Seen.nil _ _, upd_same _ _ _, by rw [upd_ne _ _ jb]; exact hbx, by rw [upd_ne _ _ j1]; exact hg1, o2, by rw [upd_ne _ _ j2]; exact hm2g, by
      have : addL F.t H.t q (([] : List ((Par × Par) × Value)).map (·.1)) = F.t := by funext k; simp [addL]
      dsimp only; rw [this]; exact h2.mf le13⟩ ?_
  rintro J2 ⟨D2, L2⟩ hJ2 u6 m6 le6 ⟨hS2, hit2, hbx2, hm1g, o2', hg22, hR2⟩
  simp only at hS2 hit2 hbx2 hm1g hg22 hR2 hJ2
  have le16 := le13.trans le6
  refine G.mapNextL keyPr.inj it2 w2 es2 clk2 l2 D2 L2 (by kernel_rfl) (by kernel_rfl) hit2 (.inl (le16 _ _ e2)) hst2 hkv2 hnd2 hS2 ?done2 ?next2
  case next2 =>
    rintro ⟨k, xv⟩ e hp hkn he hek hev hS'
    simp only at hkn hek hev
    have hx := (hl2 _ hp).1
    simp only at hx
    obtain ⟨yb, ya, yn, yc, yb', ya', yn', yc', rfl⟩ := hx.opn
    refine G.mapEntry it2 w2 es2 clk2 D2 e (by kernel_rfl) (upd_same _ _ _) (.inl (le16 _ _ e2)) hst2 he ?_
    rw [hek, hev]
    refine G.fieldA 113 bx 0 2 5 (by kernel_rfl) (by kernel_rfl) ?_
    refine G.loadM none bx (0 + 5) (.map (some g2)) (by kernel_rfl) (by kernel_rfl) (valC_5 (by rw [upd_ne _ _ jb]; exact hbx2)) ?_
    refine G.call0 _ _ (by kernel_rfl) Tryz.call89 (fracMul0 (hx.mono le16) (hk.mono le16) (SB.big (sH.t k)) hq.big) ?_
    intro v4 u4 le4 r4
    obtain ⟨b4, a4, x4, c4, b4', a4', x4', c4', rfl⟩ := r4.opn
    refine G.callG _ _ (by kernel_rfl) (by kernel_rfl) Tryz.call91 (g := g2) (o := o2') (by rw [upd_ne _ _ j2]; exact hg22)
      (notePr0 (hR2.mf le4) r4 (sK.t k) (addL_sb sF.t sR.t k) (by
        have : addL F.t H.t q (L2.map (·.1)) k = F.t k := by unfold addL; rw [if_neg hkn]
        rw [this, Rat.add_comm]; exact sR.t k)) ?_
    intro v5 u5 o5 le5 r5
    rw [addL_snoc _ _ _ hkn] at r5
    refine G.back (by kernel_rfl) (hJ2 (D2 ++ [e], L2 ++ [(k, _)]) _ _ _ ⟨by kernel_rfl, by kernel_rfl, by kernel_rfl⟩ ((le6.trans le4).trans le5)
      ⟨hS', by rw [upd_ne _ _ (Ne.symm j2), upd_same], by rw [upd_ne _ _ ne2, upd_ne _ _ jb]; exact hbx2, by rw [upd_ne _ _ ne3, upd_ne _ _ j1]; exact hm1g, o5, upd_same _ _ _, by
        simpa [Nat.add_assoc] using r5⟩ (by have := hS'.len; simp at this; dsimp only; simp; omega))
  case done2 =>
  intro hall2
  have hF2 : addL F.t H.t q (L2.map (·.1)) = (F.add (H.scale q)).t := addL_all _ _ _ fun k hk => hz2 k fun hm => hk (by
    obtain ⟨p, hp, rfl⟩ := List.mem_map.1 hm
    exact List.mem_map.2 ⟨p, hall2 p hp, rfl⟩)
  rw [hF2] at hR2
  have hLl2 := hS2.len
  refine G.drop (M3 bx g1 g2 (valC b2 a2 x2 c2 b2' a2' x2' c2' g1 g2) o1' o2') (by kernel_rfl) (M3_le hbx2 hm1g hg22) ?_
  exact G.ret (.tuple #[]) (by kernel_rfl) ⟨b2, a2, x2, c2, b2', a2', x2', c2', g1, g2, o1', o2', ne1, ne2, ne3, rfl, r2.mono (le3.trans le6), (hR.mf le6).up (by omega) (Nat.le_refl _), hR2.up (by omega) (Nat.le_refl _)⟩
end Go.Proofs.YtpdboaedoimahaaGreatDoor
end
section
set_option linter.unusedSectionVars false
set_option linter.unusedVariables false
namespace Go.Proofs.YtpdboaedoimahaaGreatDoor
open Go.RowKit Go.MapKept
def isEqT (t : TypeId) : Op → Bool
  | .binOp _ t' .. => Nat.beq t' t
  | _ => false
section rules
variable [Flag] {P : Program} [Mixed P] {fn : Func} {Post : Spec} {st : List KI × S} {u m : PH}
theorem eqGuard_agg {op : BinOp} {t : TypeId} {xs ys : Array Value} (X Y : Operand) (hg : P.eqGuardType P.depth t = false) (w : World) : (eqGuard op t X Y (.agg xs) (.agg ys)).run P w = .ok () w := by
  unfold eqGuard; split <;> simp [hg]
theorem G.eqAgg (t : TypeId) (xs ys : Array Value) (r : Bool) (h : stopV P (adv P st) = .binT .eql (P.underlying t) (.agg xs) (.agg ys)) (hq : stopQ (isEqT t) (adv P st) = true) (hg : P.eqGuardType P.depth t = false) (he : ∀ w, (Op.equal t (.agg xs) (.agg ys)).run P w = .ok r w)
    (k : G P fn Post (nx (adv P st) (.bool r)) u m) : G P fn Post st u m := by
  refine G.askQ (isEqT t) h hq (by simp) (fun env o hview hQ w _ => ?_) k
  obtain ⟨t', X, Y, yt, e, e1, e2, e3⟩ := view_binT hview
  obtain ⟨dst, opp, type, pos, after, guard⟩ := o
  simp only at e; subst e
  obtain rfl : t' = t := Nat.eq_of_beq_eq_true hQ
  simp [execOp, e1, e2, eqGuard_agg X Y hg, binOp, he]
theorem G.neAgg (t : TypeId) (xs ys : Array Value) (r : Bool) (h : stopV P (adv P st) = .binT .neq (P.underlying t) (.agg xs) (.agg ys)) (hq : stopQ (isEqT t) (adv P st) = true) (hg : P.eqGuardType P.depth t = false) (he : ∀ w, (Op.equal t (.agg xs) (.agg ys)).run P w = .ok r w)
    (k : G P fn Post (nx (adv P st) (.bool (!r))) u m) : G P fn Post st u m := by
  refine G.askQ (isEqT t) h hq (by simp) (fun env o hview hQ w _ => ?_) k
  obtain ⟨t', X, Y, yt, e, e1, e2, e3⟩ := view_binT hview
  obtain ⟨dst, opp, type, pos, after, guard⟩ := o
  simp only at e; subst e
  obtain rfl : t' = t := Nat.eq_of_beq_eq_true hQ
  simp [execOp, e1, e2, eqGuard_agg X Y hg, binOp, he]
end rules
theorem CF.zero_add (a : CF) : (CF.zero).add a = a := by rw [CF.add_comm, CF.add_zero]
theorem CFS.zero : CFS CF.zero := ⟨SB.zero, fun _ => SB.zero, fun _ => SB.zero⟩
theorem momB_of {m' u : PH} {v : Value} {F : CF} {N : Nat} (h : MomM m' u v F N) : ∃ b a n c b' a' n' c' g1 g2, v = .agg #[.bool b, .slice a n c, .bool b', .slice a' n' c', .map (some g1), .map (some g2)] ∧
    ∀ bx, m' bx = none → MomB bx (m'.upd bx (.cells (valL b a n c b' a' n' c' g1 g2).toArray 113 (0, 0))) u F N := by
  obtain ⟨b, a, n, c, b', a', n', c', g1, g2, o1, o2, e, h1, h2, rfl, h4, h5⟩ := h
  refine ⟨b, a, n, c, b', a', n', c', g1, g2, e, fun bx hb => ⟨b, a, n, c, b', a', n', c', g1, g2, o1, o2, ?_, ?_, h2, rfl, h1, h4, h5⟩⟩
  · rintro rfl; rw [upd_ne _ _ h2, upd_same] at hb; cases hb
  · rintro rfl; rw [upd_same] at hb; cases hb
theorem MomB.opn {bx : Nat} {m u : PH} {F : CF} {N : Nat} (h : MomB bx m u F N) : ∃ b a n c b' a' n' c' g1 g2 o1 o2, m bx = some (valC b a n c b' a' n' c' g1 g2) ∧ PH.le ((PH.mt.upd g1 o1).upd g2 o2) m ∧ MomM ((PH.mt.upd g1 o1).upd g2 o2) u (.agg #[.bool b, .slice a n c, .bool b', .slice a' n' c', .map (some g1), .map (some g2)]) F N := by
  obtain ⟨b, a, n, c, b', a', n', c', g1, g2, o1, o2, e1, e2, e3, rfl, h1, h2, h3⟩ := h
  refine ⟨b, a, n, c, b', a', n', c', g1, g2, o1, o2, upd_same _ _ _, ?_, b, a, n, c, b', a', n', c', g1, g2, o1, o2, rfl, h1, e3, rfl, h2, h3⟩
  exact le_upd _ (by rw [upd_ne _ _ e2, upd_ne _ _ e1]; rfl)
set_option maxHeartbeats 2000000 in
theorem scaleM0 {u : PH} {F : CF} {N : Nat} {v kv : Value} {q : Rat} (hv : MomP u v F N) (hk : FracP u kv q) (hq : SB q) (sF : CFS F) (sK : CFS (F.scale q)) :
    Contract Tryz.prog 87 [v, kv] u PH.mt fun v' u' m' => MomM m' u' v' (F.scale q) N := by
  obtain ⟨wb, wa, wn, wc, wb', wa', wn', wc', w1, w2, p1, p2, rfl, hH⟩ := id hv
  obtain ⟨kb, ka, kn, kc, kb', ka', kn', kc', rfl⟩ := hk.opn
  refine Contract.of Tryz.func87 (by kernel_rfl) (by kernel_rfl) ?_
  refine G.callO _ _ (by kernel_rfl) Tryz.call47 (whole0 (n := 0) (by omega) (by omega)) ?_
  rintro v1 u1 m1 l1 r1 _
  rw [mt_or]
  obtain ⟨b, a, n, c, b', a', n', c', g1, g2, rfl, hB⟩ := momB_of r1
  refine G.pub 1001 113 (valL b a n c b' a' n' c' g1 g2) (by kernel_rfl) (by kernel_rfl) ?_
  intro bx hu hm
  refine G.callA _ _ (by kernel_rfl) (by kernel_rfl) Tryz.call88 (mt_or _).symm (apart_mt _) (include0 (hB bx hm) (hv.mono l1) (hk.mono l1) hq CFS.zero sF sK (by show CFS (CF.zero.add _); rw [CF.zero_add]; exact sK)) ?_
  rintro v2 u2 m2 l2 r2 _
  rw [mt_or]
  obtain ⟨b, a, n, c, b', a', n', c', g1, g2, o1, o2, hbx, hle, hM⟩ := r2.opn
  refine G.loadM (some 6) bx 0 (.agg #[.bool b, .slice a n c, .bool b', .slice a' n' c', .map (some g1), .map (some g2)]) (by kernel_rfl) (by kernel_rfl) (valC_all hbx) ?_
  refine G.drop _ (by kernel_rfl) hle ?_
  exact G.ret (.agg #[.bool b, .slice a n c, .bool b', .slice a' n' c', .map (some g1), .map (some g2)]) (by kernel_rfl) (hM.congr (CF.zero_add _) (by omega))
end Go.Proofs.YtpdboaedoimahaaGreatDoor
end
section
set_option linter.unusedSectionVars false
set_option linter.unusedVariables false
namespace Go.Proofs.YtpdboaedoimahaaGreatDoor
open Go.RowKit Go.MapKept
structure MulOK (F H : CF) : Prop where
  a : CFS F
  b : CFS H
  c : CFS (H.scale F.c)
  d : CFS (F.scale H.c)
  e : CFS ((H.scale F.c).add (F.scale H.c))
  f : SB (F.c * H.c)
  pr : ∀ p q, SB (F.s p * H.s q)
  con : ∀ x, SB (con F H x)
  acc : ∀ Ps : List (Par × Par), Ps.Nodup → ∀ k, SB (((H.scale F.c).add (F.scale H.c)).t k + crossL F H Ps k)
structure MulOK' (F H : CF) (base : Par × Par → Rat) : Prop where
  a : CFS F
  b : CFS H
  pr : ∀ p q, SB (F.s p * H.s q)
  con : ∀ x, SB (con F H x)
  acc : ∀ Ps : List (Par × Par), Ps.Nodup → ∀ k, SB (base k + crossL F H Ps k)
theorem mulOK {d e N M : Nat} {F H : CF} (h : CFD d N F) (h' : CFD e M H) (hd : d + e ≤ 50) (hN : 8 * (N * M) < 10 ^ 100) (h1 : 0 < N) (h2 : 0 < M) : MulOK F H := by
  have b1 : N ≤ N * M := Nat.le_mul_of_pos_right _ h2
  have b2 : M ≤ N * M := Nat.le_mul_of_pos_left _ h1
  have c1 : CFD (d + e) (N * M) (H.scale F.c) := by have := h'.scale h.c; rw [Nat.add_comm, Nat.mul_comm] at this; exact this
  have c2 : CFD (d + e) (N * M) (F.scale H.c) := h.scale h'.c
  exact ⟨h.cfs (by omega) (by omega), h'.cfs (by omega) (by omega), c1.cfs hd (by omega), c2.cfs hd (by omega), (c1.add c2).cfs hd (by omega), (h.c.mul h'.c).small hd (by omega),
    fun p q => ((h.s p).mul (h'.s q)).small hd (by omega), fun x => (con_dn h h' x).small hd (by omega), fun Ps hn k => (((c1.add c2).t k).add (cross_dn h h' hn k)).small hd (by omega)⟩
set_option maxHeartbeats 8000000 in
theorem mulM0 {u : PH} {F H : CF} {N M : Nat} {v w : Value} (hv : MomP u v F N) (hw : MomP u w H M) (ok : MulOK F H) :
    Contract Tryz.prog 48 [v, w] u PH.mt fun v' u' m' => MomM m' u' v' (F.mul H) (M + N + N * M) := by
  obtain ⟨vb, va, vn, vc, vb', va', vn', vc', v1, v2, q1, q2, rfl, hvc, f1, f2, s1, s2⟩ := id hv
  obtain ⟨wb, wa, wn, wc, wb', wa', wn', wc', w1, w2, p1, p2, rfl, hwc, e1, e2, t1, t2⟩ := id hw
  obtain ⟨lv, ⟨esv, clv, rfl, hkv, hsv⟩, hlv, hzv, hnv⟩ := s1.at
  obtain ⟨lw, ⟨esw, clw, rfl, hkw, hsw⟩, hlw, hzw, hnw⟩ := t1.at
  have hndv : (lv.map (·.1)).Nodup := MapO.nodup (enc := parV) ⟨esv, clv, rfl, hkv, hsv⟩
  have hndw : (lw.map (·.1)).Nodup := MapO.nodup (enc := parV) ⟨esw, clw, rfl, hkw, hsw⟩
  refine Contract.of Tryz.func48 (by kernel_rfl) (by kernel_rfl) ?_
  refine G.callO _ _ (by kernel_rfl) Tryz.call87 (scaleM0 hw hvc ok.a.c ok.b ok.c) ?_
  rintro f3 u3 m3 l3 r3 _
  rw [mt_or]
  obtain ⟨b, a, n, c, b', a', n', c', g1, g2, rfl, hB⟩ := momB_of r3
  refine G.pub 1004 113 (valL b a n c b' a' n' c' g1 g2) (by kernel_rfl) (by kernel_rfl) ?_
  intro bx hu hm
  refine G.callA _ _ (by kernel_rfl) (by kernel_rfl) Tryz.call88 (mt_or _).symm (apart_mt _) (include0 (hB bx hm) (hv.mono l3) (hwc.mono l3) ok.b.c ok.c ok.a ok.d ok.e) ?_
  rintro f4 u4 m4 l4 r4 _
  rw [mt_or]
  obtain ⟨b, a, n, c, b', a', n', c', g1, g2, o1, o2, ne1, ne2, ne3, rfl, hC, hS1, hT1⟩ := r4
  have le4 := l3.trans l4
  refine G.call0 _ _ (by kernel_rfl) Tryz.call89 (fracMul0 (hvc.mono le4) (hwc.mono le4) (SB.big ok.a.c) (SB.big ok.b.c)) ?_
  intro f5 u5 l5 r5
  obtain ⟨b2, a2, x2, c2, b2', a2', x2', c2', rfl⟩ := r5.opn
  refine G.fieldA 113 bx 0 0 0 (by kernel_rfl) (by kernel_rfl) ?_
  refine G.storeM 4 bx (0 + 0) 113 (valL b a n c b' a' n' c' g1 g2) (.agg #[.bool b2, .slice a2 x2 c2, .bool b2', .slice a2' x2' c2']) (by kernel_rfl) (upd_same _ _ _) valL_ok (by simp) rfl rfl ?_
  obtain ⟨m5, hm5, hb5, hg5, hh5⟩ : ∃ m5 : PH, m5 = (M3 bx g1 g2 (valC b a n c b' a' n' c' g1 g2) o1 o2).upd bx (valC b2 a2 x2 c2 b2' a2' x2' c2' g1 g2) ∧ m5 bx = some (valC b2 a2 x2 c2 b2' a2' x2' c2' g1 g2) ∧ m5 g1 = some o1 ∧ m5 g2 = some o2 :=
    ⟨_, rfl, upd_same _ _ _, by rw [upd_ne _ _ (Ne.symm ne1)]; unfold M3; rw [upd_ne _ _ (Ne.symm ne1), upd_ne _ _ ne3, upd_same], by rw [upd_ne _ _ (Ne.symm ne2)]; unfold M3; rw [upd_ne _ _ (Ne.symm ne2), upd_same]⟩
  show G _ _ _ _ _ ((M3 bx g1 g2 (valC b a n c b' a' n' c' g1 g2) o1 o2).upd bx (valC b2 a2 x2 c2 b2' a2' x2' c2' g1 g2))
  rw [← hm5]
  have le5 := le4.trans l5
  obtain ⟨base, hbase⟩ : ∃ base : Par × Par → Rat, base = ((H.scale F.c).add (F.scale H.c)).t := ⟨_, rfl⟩
  have hacc := ok.acc
  rw [← hbase] at hT1
  refine G.mapRange v1 esv clv 55 109 (by kernel_rfl) (.inl (le5 _ _ f1)) ?_
  intro it him hiu
  have ib : bx ≠ it := fun e => by subst e; rw [him] at hb5; cases hb5
  have i1 : g1 ≠ it := fun e => by subst e; rw [him] at hg5; cases hg5
  have i2 : g2 ≠ it := fun e => by subst e; rw [him] at hh5; cases hh5
  refine G.loop (ι := List MapEntry × List (Par × Value)) (fun _ => [(2, .p 0 0), (3, .p 1 0), (4, .p 2 0), (5, .v (.pointer (some ⟨bx, 0, none⟩))), (27, .v (.pointer (some ⟨it, 0, none⟩)))])
    (fun _ => [(0, ⟨113, [.v (.bool vb), .v (.slice va vn vc), .v (.bool vb'), .v (.slice va' vn' vc'), .v (.map (some v1)), .v (.map (some v2))]⟩), (1, ⟨113, [.v (.bool wb), .v (.slice wa wn wc), .v (.bool wb'), .v (.slice wa' wn' wc'), .v (.map (some w1)), .v (.map (some w2))]⟩), (2, ⟨113, [.v (.bool false), .v (.slice none 0 0), .v (.bool false), .v (.slice none 0 0), .v (.map none), .v (.map none)]⟩)])
    (fun i u' m' => Seen parV esv lv i.1 i.2 ∧ m' it = some (.mapIter (some v1) clv (seenOf i.1) clv) ∧ m' bx = some (valC b2 a2 x2 c2 b2' a2' x2' c2' g1 g2) ∧ m' g1 = some o1 ∧ ∃ Ps : List (Par × Par), Ps.Nodup ∧ (∀ x : Par × Par, x ∈ Ps ↔ x.1 ∈ i.2.map (·.1) ∧ x.2 ∈ lw.map (·.1)) ∧ ∃ o2', m' g2 = some o2' ∧ MapR prV FracP true u' o2' (fun k => base k + crossL F H Ps k) (M + N + i.2.length * lw.length) 12)
    (fun i => lv.length - i.2.length) ([], []) (by kernel_rfl) (fun _ => by kernel_rfl) ⟨by kernel_rfl, by kernel_rfl, by kernel_rfl⟩
    ⟨Seen.nil _ _, upd_same _ _ _, by rw [upd_ne _ _ ib]; exact hb5, by rw [upd_ne _ _ i1]; exact hg5, [], by simp, by simp, o2, by rw [upd_ne _ _ i2]; exact hh5, ((hT1.mf l5).congr fun k => by simp only [crossL]; grind).up (by simp) (Nat.le_refl _)⟩ ?_
  rintro J ⟨D, L⟩ hJ u6 m6 l6 ⟨hS, hit, hbx, hm1g, Ps, hPn, hPm, o2', hg2, hR⟩
  simp only at hS hit hbx hm1g hPm hg2 hR hJ
  have le6 := le5.trans l6
  refine G.mapNextL keyPar.inj it v1 esv clv lv D L (by kernel_rfl) (by kernel_rfl) hit (.inl (le6 _ _ f1)) hsv hkv hndv hS ?done1 ?next1
  case next1 =>
    rintro ⟨p, xv⟩ e hp hpn he hek hev hS'
    simp only at hpn hek hev
    have hx := (hlv _ hp).1
    simp only at hx
    obtain ⟨yb, ya, yn, yc, yb', ya', yn', yc', rfl⟩ := hx.opn
    refine G.mapEntry it v1 esv clv D e (by kernel_rfl) (upd_same _ _ _) (.inl (le6 _ _ f1)) hsv he ?_
    rw [hek, hev]
    refine G.mapRange w1 esw clw 55 109 (by kernel_rfl) (.inl (le6 _ _ e1)) ?_
    intro it2 him2 hiu2
    have jb : bx ≠ it2 := fun e => by subst e; rw [upd_ne _ _ ib, hbx] at him2; cases him2
    have j1 : g1 ≠ it2 := fun e => by subst e; rw [upd_ne _ _ i1, hm1g] at him2; cases him2
    have j2 : g2 ≠ it2 := fun e => by subst e; rw [upd_ne _ _ i2, hg2] at him2; cases him2
    have k1 : it ≠ it2 := fun e => by subst e; rw [upd_same] at him2; cases him2
    have k2 : g2 ≠ it := i2
    refine G.loop (ι := List MapEntry × List (Par × Value)) (fun _ => [(2, .p 0 0), (3, .p 1 0), (4, .p 2 0), (5, .v (.pointer (some ⟨bx, 0, none⟩))), (6, .p 6003 0), (7, .p 6004 0), (27, .v (.pointer (some ⟨it, 0, none⟩))), (35, .v (.pointer (some ⟨it2, 0, none⟩)))])
      (fun _ => [(0, ⟨113, [.v (.bool vb), .v (.slice va vn vc), .v (.bool vb'), .v (.slice va' vn' vc'), .v (.map (some v1)), .v (.map (some v2))]⟩), (1, ⟨113, [.v (.bool wb), .v (.slice wa wn wc), .v (.bool wb'), .v (.slice wa' wn' wc'), .v (.map (some w1)), .v (.map (some w2))]⟩), (2, ⟨113, [.v (.bool false), .v (.slice none 0 0), .v (.bool false), .v (.slice none 0 0), .v (.map none), .v (.map none)]⟩), (6003, ⟨55, [.v (.int .i64 p.1), .v (.string (mkS p.2))]⟩), (6004, ⟨109, [.v (.bool yb), .v (.slice ya yn yc), .v (.bool yb'), .v (.slice ya' yn' yc')]⟩)])
      (fun i u' m' => Seen parV esw lw i.1 i.2 ∧ m' it2 = some (.mapIter (some w1) clw (seenOf i.1) clw) ∧ m' it = some (.mapIter (some v1) clv (seenOf (D ++ [e])) clv) ∧ m' bx = some (valC b2 a2 x2 c2 b2' a2' x2' c2' g1 g2) ∧ m' g1 = some o1 ∧ ∃ Qs : List (Par × Par), Qs.Nodup ∧ (∀ x : Par × Par, x ∈ Qs ↔ (x.1 ∈ L.map (·.1) ∧ x.2 ∈ lw.map (·.1)) ∨ (x.1 = p ∧ x.2 ∈ i.2.map (·.1))) ∧ ∃ oi, m' g2 = some oi ∧ MapR prV FracP true u' oi (fun k => base k + crossL F H Qs k) (M + N + L.length * lw.length + i.2.length) 12)
      (fun i => lw.length - i.2.length) ([], []) (by kernel_rfl) (fun _ => by kernel_rfl) ⟨by kernel_rfl, by kernel_rfl, by kernel_rfl⟩
      ⟨Seen.nil _ _, upd_same _ _ _, by rw [upd_ne _ _ k1, upd_same], by rw [upd_ne _ _ jb, upd_ne _ _ ib]; exact hbx, by rw [upd_ne _ _ j1, upd_ne _ _ i1]; exact hm1g, Ps, hPn, by intro x; rw [hPm]; simp, o2', by rw [upd_ne _ _ j2, upd_ne _ _ i2]; exact hg2, hR⟩ ?_
    rintro J2 ⟨D2, L2⟩ iJ ui mi ile ⟨iS, iit2, iit, ibx, ig1, Qs, hQn, hQm, oi, ig2, iR⟩
    simp only at iS iit2 iit ibx ig1 hQm ig2 iR iJ
    have lei := le6.trans ile
    refine G.mapNextL keyPar.inj it2 w1 esw clw lw D2 L2 (by kernel_rfl) (by kernel_rfl) iit2 (.inl (lei _ _ e1)) hsw hkw hndw iS ?done2 ?next2
    case next2 =>
      rintro ⟨k, yv⟩ e2 hk hkn he2 hek2 hev2 iS'
      simp only at hkn hek2 hev2
      have hy := (hlw _ hk).1
      simp only at hy
      obtain ⟨zb, za, zn, zc, zb', za', zn', zc', rfl⟩ := hy.opn
      have hnew : (p, k) ∉ Qs := fun h => by
        rcases (hQm _).1 h with h | h
        · exact hpn h.1
        · exact hkn h.2
      have hQn' : (Qs ++ [(p, k)]).Nodup := by
        rw [List.nodup_append]
        exact ⟨hQn, by simp, fun a ha b hb e' => hnew (by simp at hb; rw [← hb, ← e']; exact ha)⟩
      have hQm' : ∀ x : Par × Par, x ∈ Qs ++ [(p, k)] ↔ (x.1 ∈ L.map (·.1) ∧ x.2 ∈ lw.map (·.1)) ∨ (x.1 = p ∧ x.2 ∈ (L2 ++ [(k, Value.agg #[.bool zb, .slice za zn zc, .bool zb', .slice za' zn' zc'])]).map (·.1)) := fun x => by
        obtain ⟨x1, x2⟩ := x
        rw [List.mem_append, hQm]
        simp only [List.map_append, List.mem_append, List.map_cons, List.map_nil, List.mem_singleton, Prod.mk.injEq]
        constructor
        · rintro ((h | ⟨h1, h2⟩) | ⟨h1, h2⟩)
          · exact .inl h
          · exact .inr ⟨h1, .inl h2⟩
          · exact .inr ⟨h1, .inr h2⟩
        · rintro (h | ⟨h1, h2 | h2⟩)
          · exact .inl (.inl h)
          · exact .inl (.inr ⟨h1, h2⟩)
          · exact .inr ⟨h1, h2⟩
      refine G.mapEntry it2 w1 esw clw D2 e2 (by kernel_rfl) (upd_same _ _ _) (.inl (lei _ _ e1)) hsw he2 ?_
      rw [hek2, hev2]
      refine G.call0 _ _ (by kernel_rfl) Tryz.call89 (fracMul0 (hx.mono lei) (hy.mono lei) (SB.big (ok.a.s p)) (SB.big (ok.b.s k))) ?_
      intro v9 u9 l9 r9
      obtain ⟨b9, a9, n9, c9, b9', a9', n9', c9', rfl⟩ := r9.opn
      rw [← hbase] at hacc
      have ok : MulOK' F H base := ⟨ok.a, ok.b, ok.pr, ok.con, hacc⟩
      by_cases hpk : p = k
      · have hcon : con F H (p, k) = F.s p * H.s k + F.s p * H.s k := by unfold con; rw [if_pos hpk]
        refine G.eqAgg 55 #[.int .i64 p.1, .string (mkS p.2)] #[.int .i64 k.1, .string (mkS k.2)] true (by kernel_rfl) (by kernel_rfl) (by kernel_rfl) (fun w => by rw [← decide_eq_true hpk]; exact keyPar.eq p k w) ?_
        refine G.call0 _ _ (by kernel_rfl) Tryz.call90 (fracAdd0 r9 r9 (SB.big (ok.pr p k)) (SB.big (ok.pr p k))) ?_
        intro v10 u10 l10 r10
        obtain ⟨b10, a10, n10, c10, b10', a10', n10', c10', rfl⟩ := r10.opn
        refine G.fieldA 113 bx 0 2 5 (by kernel_rfl) (by kernel_rfl) ?_
        refine G.loadM none bx (0 + 5) (.map (some g2)) (by kernel_rfl) (by kernel_rfl) (valC_5 (by rw [upd_ne _ _ jb]; exact ibx)) ?_
        refine G.call0 _ _ (by kernel_rfl) Tryz.call92 (pair0 p k) ?_
        rintro v7 u7 l7 rfl
        refine G.callG _ _ (by kernel_rfl) (by kernel_rfl) Tryz.call91 (g := g2) (o := oi) (by rw [upd_ne _ _ j2]; exact ig2)
          (notePr0 (a := pairP p k) (iR.mf ((l9.trans l10).trans l7)) (r10.mono l7) (by have := ok.con (p, k); rw [hcon] at this; exact this) (ok.acc Qs hQn _) (by
            have := ok.acc (Qs ++ [(p, k)]) hQn' (pairP p k)
            rw [cross_snoc, if_pos rfl, hcon] at this
            rw [show (F.s p * H.s k + F.s p * H.s k) + (base (pairP p k) + crossL F H Qs (pairP p k)) = base (pairP p k) + ((F.s p * H.s k + F.s p * H.s k) + crossL F H Qs (pairP p k)) by grind]; exact this)) ?_
        intro v8 u8 o8 l8 r8
        refine G.back (by kernel_rfl) (iJ (D2 ++ [e2], L2 ++ [(k, _)]) _ _ _ ⟨by kernel_rfl, by kernel_rfl, by kernel_rfl⟩ ((ile.trans ((l9.trans l10).trans l7)).trans l8)
          ⟨iS', by rw [upd_ne _ _ (Ne.symm j2), upd_same], by rw [upd_ne _ _ (Ne.symm k2), upd_ne _ _ k1]; exact iit, by rw [upd_ne _ _ ne2, upd_ne _ _ jb]; exact ibx, by rw [upd_ne _ _ ne3, upd_ne _ _ j1]; exact ig1, Qs ++ [(p, k)], hQn', hQm', o8, upd_same _ _ _, ?_⟩ (by have := iS'.len; simp at this; dsimp only; simp; omega))
        refine (r8.congr fun j => ?_).up (by simp [Nat.add_assoc]) (Nat.le_refl _)
        rw [cross_snoc, hcon]
        unfold setF
        by_cases e : j = pairP p k
        · rw [if_pos e, if_pos e, e]; grind
        · rw [if_neg e, if_neg e]
      · have hcon : con F H (p, k) = F.s p * H.s k := by unfold con; rw [if_neg hpk]
        refine G.eqAgg 55 #[.int .i64 p.1, .string (mkS p.2)] #[.int .i64 k.1, .string (mkS k.2)] false (by kernel_rfl) (by kernel_rfl) (by kernel_rfl) (fun w => by rw [← decide_eq_false hpk]; exact keyPar.eq p k w) ?_
        refine G.fieldA 113 bx 0 2 5 (by kernel_rfl) (by kernel_rfl) ?_
        refine G.loadM none bx (0 + 5) (.map (some g2)) (by kernel_rfl) (by kernel_rfl) (valC_5 (by rw [upd_ne _ _ jb]; exact ibx)) ?_
        refine G.call0 _ _ (by kernel_rfl) Tryz.call92 (pair0 p k) ?_
        rintro v7 u7 l7 rfl
        refine G.callG _ _ (by kernel_rfl) (by kernel_rfl) Tryz.call91 (g := g2) (o := oi) (by rw [upd_ne _ _ j2]; exact ig2)
          (notePr0 (a := pairP p k) (iR.mf (l9.trans l7)) (r9.mono l7) (by have := ok.con (p, k); rw [hcon] at this; exact this) (ok.acc Qs hQn _) (by
            have := ok.acc (Qs ++ [(p, k)]) hQn' (pairP p k)
            rw [cross_snoc, if_pos rfl, hcon] at this
            rw [show F.s p * H.s k + (base (pairP p k) + crossL F H Qs (pairP p k)) = base (pairP p k) + (F.s p * H.s k + crossL F H Qs (pairP p k)) by grind]; exact this)) ?_
        intro v8 u8 o8 l8 r8
        refine G.back (by kernel_rfl) (iJ (D2 ++ [e2], L2 ++ [(k, _)]) _ _ _ ⟨by kernel_rfl, by kernel_rfl, by kernel_rfl⟩ ((ile.trans (l9.trans l7)).trans l8)
          ⟨iS', by rw [upd_ne _ _ (Ne.symm j2), upd_same], by rw [upd_ne _ _ (Ne.symm k2), upd_ne _ _ k1]; exact iit, by rw [upd_ne _ _ ne2, upd_ne _ _ jb]; exact ibx, by rw [upd_ne _ _ ne3, upd_ne _ _ j1]; exact ig1, Qs ++ [(p, k)], hQn', hQm', o8, upd_same _ _ _, ?_⟩ (by have := iS'.len; simp at this; dsimp only; simp; omega))
        refine (r8.congr fun j => ?_).up (by simp [Nat.add_assoc]) (Nat.le_refl _)
        rw [cross_snoc, hcon]
        unfold setF
        by_cases e : j = pairP p k
        · rw [if_pos e, if_pos e, e]; grind
        · rw [if_neg e, if_neg e]
    case done2 =>
    intro hall2
    refine G.back (by kernel_rfl) (hJ (D ++ [e], L ++ [(p, _)]) _ _ _ ⟨by kernel_rfl, by kernel_rfl, by kernel_rfl⟩ (l6.trans ile) ⟨hS', iit, ibx, ig1, Qs, hQn, fun x => ?_, oi, ig2, iR.up ?_ (Nat.le_refl _)⟩ (by have := hS'.len; simp at this; dsimp only; simp; omega))
    · rw [hQm]
      simp only [List.map_append, List.mem_append, List.map_cons, List.map_nil, List.mem_singleton]
      constructor
      · rintro (h | ⟨h1, h2⟩)
        · exact ⟨.inl h.1, h.2⟩
        · obtain ⟨y, hy, e'⟩ := List.mem_map.1 h2
          exact ⟨.inr h1, List.mem_map.2 ⟨y, iS.sub y hy, e'⟩⟩
      · rintro ⟨h1 | h1, h2⟩
        · exact .inl ⟨h1, h2⟩
        · obtain ⟨y, hy, e'⟩ := List.mem_map.1 h2
          exact .inr ⟨h1, List.mem_map.2 ⟨y, hall2 y hy, e'⟩⟩
    · have := iS.len
      simp only [List.length_append, List.length_cons, List.length_nil, Nat.add_mul]
      omega
  case done1 =>
  intro hall
  refine G.loadM (some 6) bx 0 (.agg #[.bool b2, .slice a2 x2 c2, .bool b2', .slice a2' x2' c2', .map (some g1), .map (some g2)]) (by kernel_rfl) (by kernel_rfl) (valC_all hbx) ?_
  refine G.drop ((PH.mt.upd g1 o1).upd g2 o2') (by kernel_rfl) (fun g o hg => ?_) ?_
  · by_cases e : g = g2
    · subst e; rw [upd_same] at hg; cases hg; exact hg2
    · rw [upd_ne _ _ e] at hg
      by_cases e : g = g1
      · subst e; rw [upd_same] at hg; cases hg; exact hm1g
      · rw [upd_ne _ _ e] at hg; cases hg
  refine G.ret (.agg #[.bool b2, .slice a2 x2 c2, .bool b2', .slice a2' x2' c2', .map (some g1), .map (some g2)]) (by kernel_rfl) ⟨b2, a2, x2, c2, b2', a2', x2', c2', g1, g2, o1, o2', rfl, r5.mono l6, ne3, rfl, (hS1.mf (l5.trans l6)).up (by omega) (Nat.le_refl _), (hR.congr fun k => ?_).up ?_ (Nat.le_refl _)⟩
  · rw [cross_all F H hPn (fun p q h1 h2 => (hPm _).2 ⟨?_, ?_⟩) k, hbase]
    · rfl
    · have : p ∈ lv.map (·.1) := Classical.byContradiction fun h => h1 (hzv p h)
      obtain ⟨y, hy, e'⟩ := List.mem_map.1 this
      exact List.mem_map.2 ⟨y, hall y hy, e'⟩
    · exact Classical.byContradiction fun h => h2 (hzw q h)
  · have h1 := hS.len
    have h2 : L.length * lw.length ≤ N * M := Nat.mul_le_mul (by omega) hnw
    omega
end Go.Proofs.YtpdboaedoimahaaGreatDoor
end
section
set_option linter.unusedSectionVars false
set_option linter.unusedVariables false
namespace Go.Proofs.YtpdboaedoimahaaGreatDoor
open Go.RowKit Go.MapKept
def termV (p : Par × Rat) : Value := .agg #[.int .i64 p.1.1, .string (mkS p.1.2), .string (mkS (ratT p.2))]
def prtV (x : (Par × Par) × Rat) : Value := .agg #[.int .i64 x.1.1.1, .string (mkS x.1.1.2), .int .i64 x.1.2.1, .string (mkS x.1.2.2), .string (mkS (ratT x.2))]
def CofP (u : PH) (v : Value) (F : CF) (K : Nat) : Prop :=
  ∃ (T : List (Par × Rat)) (Q : List ((Par × Par) × Rat)) (a1 : Option Addr) (c1 : Nat) (a2 : Option Addr) (c2 : Nat), v = .agg #[.string (mkS (ratT F.c)), .slice a1 T.length c1, .slice a2 Q.length c2] ∧
    ListP u (.slice a1 T.length c1) 3 (T.map termV) ∧ ListP u (.slice a2 Q.length c2) 5 (Q.map prtV) ∧ Can cmpP F.s T ∧ Can cmpQ F.t Q ∧ T.length ≤ K ∧ Q.length ≤ K
theorem CofP.mono {u u' : PH} {v : Value} {F : CF} {K : Nat} (h : CofP u v F K) (hl : PH.le u u') : CofP u' v F K := by
  obtain ⟨T, Q, a1, c1, a2, c2, e, h1, h2, h3⟩ := h
  exact ⟨T, Q, a1, c1, a2, c2, e, h1.mono hl, h2.mono hl, h3⟩
section
variable {κ : Type} [DecidableEq κ]
end
end Go.Proofs.YtpdboaedoimahaaGreatDoor
end
section
set_option linter.unusedSectionVars false
set_option linter.unusedVariables false
namespace Go.Proofs.YtpdboaedoimahaaGreatDoor
open Go.RowKit Go.MapKept Go.Shelf
section
variable {F : Fence} {n : Nat} {P : Program} [Mixed P] {w : World} {ops : Array Oper} {rest : List Oper} {o : Oper} {a : Act} {Q : Exit → Act → World → Prop}
theorem wpListIn_rangeM (hg : o.guard = none) (x : Operand) (t kt et : TypeId) (hop : o.op = Op.range t x) (ht : P.underlying t = some (.map kt et)) (g : Nat) (es : Array MapEntry) (clock : Nat) (hx : a.eval x = .map (some g)) (hm : w.heap[g]? = some (.map es clock))
    (hK : wpListIn F n P ops Q rest (a.put o.dst (.pointer (some ⟨w.heap.size, 0, none⟩))) (w.alloc (.mapIter (some g) clock (seenOf []) clock))) : wpListIn F n P ops Q (o :: rest) a w := by
  refine wpListIn_plain hg fun K' hK' => ?_
  have hr := run_range_map (P := P) w t kt et g es clock ht hm
  unfold Oper.wpIn
  refine ⟨by simp [Oper.about, hop], ?_⟩
  rw [Oper.semAt_plain F _ _ (by rw [hop]; intro c hc'; cases hc')]
  simp only [execOp, hop, hx]
  simp only [Sem.run_bind, hr, Result.andThen_ok]
  exact hK' _ _ hK
theorem wpListIn_nextM (hg : o.guard = none) (x : Operand) (hop : o.op = Op.next x false) (it g : Nat) (es : Array MapEntry) (clock : Nat) (D : List MapEntry) (hx : a.eval x = .pointer (some ⟨it, 0, none⟩)) (hi : w.heap[it]? = some (.mapIter (some g) clock (seenOf D) clock)) (hm : w.heap[g]? = some (.map es clock)) (hs : Stamped es clock) (hD : ItOK es D)
    (h0 : D.Perm es.toList → wpListIn F n P ops Q rest (a.put o.dst (.tuple #[.bool false])) w)
    (h1 : ∀ e w2, e ∈ es.toList → ItOK es (D ++ [e]) → w2.heap[it]? = some (.mapIter (some g) clock (seenOf (D ++ [e])) clock) → w.grownBy w2 (some it) → wpListIn F n P ops Q rest (a.put o.dst (.tuple #[.bool true, e.key, e.val])) w2) : wpListIn F n P ops Q (o :: rest) a w := by
  refine wpListIn_plain hg fun K' hK' => ?_
  unfold Oper.wpIn
  refine ⟨by simp [Oper.about, hop], ?_⟩
  rw [Oper.semAt_plain F _ _ (by rw [hop]; intro c hc'; cases hc')]
  rcases run_nextG (P := P) o.type hi hm hs with ⟨e0, hr⟩ | ⟨e, he, w1, hw1, hr⟩
  · simp only [execOp, hop, hx]
    simp only [Sem.run_bind, hr, Result.andThen_ok]
    exact hK' _ _ (h0 (done_perm hs hD e0))
  · simp only [execOp, hop, hx]
    simp only [Sem.run_bind, hr, Result.andThen_ok]
    have hh : w1.heap = w.heap := by rcases hw1 with rfl | rfl <;> rfl
    refine hK' _ _ (h1 e _ (mem_left he).1 (hD.snoc he) ?_ ⟨?_, ?_, ?_, ?_, fun k hk hne => ?_⟩)
    · exact setW_same (o := .mapIter (some g) clock (seenOf D) clock) (by rw [hh]; exact hi)
    · rcases hw1 with rfl | rfl <;> rfl
    · rcases hw1 with rfl | rfl <;> rfl
    · rcases hw1 with rfl | rfl <;> rfl
    · rw [setW_size, hh]; exact Nat.le_refl _
    · rw [setW_ne (fun e => hne (by rw [e])), hh]
theorem run_entryM {it g : Nat} {es : Array MapEntry} {clock : Nat} {D : List MapEntry} {e : MapEntry} (hi : w.heap[it]? = some (.mapIter (some g) clock (seenOf (D ++ [e])) clock)) (hm : w.heap[g]? = some (.map es clock)) (hs : Stamped es clock) (he : e ∈ es.toList) :
    (Instr.entry (.pointer (some ⟨it, 0, none⟩))).run P w = .ok (.tuple #[e.key, e.val]) w := by
  have hb : (seenOf (D ++ [e])).back? = some e.born := by simp [seenOf]
  have hf : es.find? (fun x => x.born == e.born) = some e := by rw [← Array.find?_toList]; exact find_born e es.toList hs.2.1 he
  simp only [Instr.entry, getObj, Sem.run_bind, Sem.run, hi, hm, Result.andThen, hb, bne_self_eq_false, Bool.false_eq_true, if_false, hf]
  rfl
end
def leftN (es : Array MapEntry) (it : Nat) (w : World) : Nat := match w.heap[it]? with | some (.mapIter _ _ seen _) => es.size - seen.size | _ => 0
theorem leftN_eq {es : Array MapEntry} {it g clock : Nat} {D : List MapEntry} {w : World} (h : w.heap[it]? = some (.mapIter (some g) clock (seenOf D) clock)) : leftN es it w = es.size - D.length := by
  unfold leftN; rw [h]; simp [seenOf]
theorem ItOK.lt {es : Array MapEntry} {D : List MapEntry} {e : MapEntry} (h : ItOK es (D ++ [e])) : D.length < es.size := by
  have := len_of_sub (·.born) h.nod h.sub
  simp at this; omega
end Go.Proofs.YtpdboaedoimahaaGreatDoor
end
section
set_option linter.unusedSectionVars false
set_option linter.unusedVariables false
namespace Go.Proofs.YtpdboaedoimahaaGreatDoor
open Go.RowKit Go.MapKept Go.Shelf
set_option maxRecDepth 100000 in
set_option maxHeartbeats 1000000 in
theorem keys1Pr (n l Bm g : Nat) (es : Array MapEntry) (clock : Nat) (lk : List ((Par × Par) × Value)) (J : List (Par × Par) → World → Prop) (hs : Stamped es clock) (hkv : es.toList.map (fun e => (e.key, e.val)) = lk.map (fun p => (prV p.1, p.2))) (hnd : (lk.map (·.1)).Nodup)
    (hY : ∀ pre x W, J pre W → pre.length < lk.length → YieldAt Fence.wide (n - 1) Tryz.prog l #[prV x] W fun e W' => e = .returned (.bool true) ∧ J (pre ++ [x]) W' ∧ KeepsWalks W W')
    (W : World) (hJ : AbidesFrom W.heap.size J) (hm : W.cell? ⟨Bm, 0, none⟩ = some (.map (some g))) (hg : W.heap[g]? = some (.map es clock)) (h0 : J [] W) :
    CallsIn Fence.wide n Tryz.prog 163 #[.func (.yield l) #[] #[], .pointer (some ⟨Bm, 0, none⟩)] W fun e W' => (∃ v, e = .returned v) ∧ ∃ ss : List (Par × Par), (ss.Nodup ∧ ∀ k, k ∈ ss ↔ k ∈ lk.map (·.1)) ∧ J ss W' := by
  have mixed : Tryz.prog.follows .mixedOrders = true := by kernel_rfl
  refine callsIn_of_wp Tryz.func163 rfl trivial ?_ rfl
  simp only [Tryz.ntmps163, List.size_toArray, List.length_cons, List.length_nil, Nat.reduceAdd, Nat.reduceSub, Array.replicate_succ, Array.replicate_zero, List.push_toArray, List.append_toArray, List.nil_append, List.cons_append]
  gi_wp2_with (first
    | (gi_at_range; refine wpListIn_rangeM rfl _ 111 163 109 rfl (by kernel_rfl) g es clock rfl hg ?_)
    | gi_in)
  go_frame
  gi_loopw [3] (fun _ wr => ∃ (D : List MapEntry) (L : List ((Par × Par) × Value)), wr.heap[W.heap.size]? = some (.mapIter (some g) clock (seenOf D) clock) ∧ Seen prV es lk D L ∧ wr.heap[g]? = some (.map es clock) ∧ W.heap.size ≤ wr.heap.size ∧ J (L.map (·.1)) wr)
    (fun _ wr => leftN es W.heap.size wr)
  case atStart =>
    refine ⟨[], [], heap_alloc_eq _ _, Seen.nil _ _, by rw [heap_alloc_lt _ _ (lt_of_at hg)]; exact hg, by rw [size_alloc']; omega, ?_⟩
    exact hJ [] W _ none h0 ⟨rfl, rfl, rfl, by rw [size_alloc']; omega, fun k hk _ => heap_alloc_lt _ _ hk⟩ (fun r e => by cases e)
  case round =>
    obtain ⟨D, L, hit, hS, hgr, hsz, hJs⟩ := hrel
    gi_wp2_with (first
      | (gi_at_next; refine wpListIn_nextM rfl _ rfl W.heap.size g es clock D rfl hit hgr hs hS.it ?_ ?_)
      | gi_in)
    · intro hp
      gi_wp2
      go_end0
      have hall := hS.all keyPr.inj hkv hp
      exact ⟨⟨_, rfl⟩, L.map (·.1), ⟨hS.nod, fun k => ⟨fun h => by
        obtain ⟨y, hy, rfl⟩ := List.mem_map.1 h
        exact List.mem_map.2 ⟨y, hS.sub y hy, rfl⟩, fun h => by
        obtain ⟨y, hy, rfl⟩ := List.mem_map.1 h
        exact List.mem_map.2 ⟨y, hall y hy, rfl⟩⟩⟩, hJs⟩
    · intro e w2 he0 hi hit2 hgb
      have he : e ∈ es.toList := by simpa using he0
      obtain ⟨p, hp, hek, hev, hnew, hS'⟩ := hS.snoc keyPr.inj hkv hnd he hi
      have hgw2 : w2.heap[g]? = some (.map es clock) := (hgb.block g (lt_of_at hgr) (fun e => by cases e; rw [hit] at hgr; cases hgr)).trans hgr
      have hen := run_entryM (P := Tryz.prog) hit2 hgw2 hs he
      rw [hek, hev, show prV p.1 = .agg #[.int .i64 p.1.1.1, .string (mkS p.1.1.2), .int .i64 p.1.2.1, .string (mkS p.1.2.2)] from rfl] at hen ⊢
      have hl2 := lt_of_at hit2
      have hlen := hS'.len
      simp only [List.length_append, List.length_cons, List.length_nil] at hlen
      have hJ2 : J (L.map (·.1)) w2 := hJ _ wr w2 (some W.heap.size) hJs hgb (fun r e => by cases e; exact ⟨Nat.le_refl _, _, hit, rfl⟩)
      have hJ3 : J (L.map (·.1)) (w2.alloc (.cells #[.int .i64 p.1.1.1, .string (mkS p.1.1.2), .int .i64 p.1.2.1, .string (mkS p.1.2.2)] 163)) := hJ _ w2 _ none hJ2 ⟨rfl, rfl, rfl, by rw [size_alloc']; omega, fun k hk _ => heap_alloc_lt _ _ hk⟩ (fun r e => by cases e)
      have hS2 : w2.heap.size ≥ W.heap.size := Nat.le_trans hsz hgb.size
      obtain ⟨fn, tmps, assign, body, hy, hR⟩ := hY (L.map (·.1)) p.1 _ hJ3 (by rw [List.length_map]; omega)
      have hy' : (Instr.yield l #[.agg #[.int .i64 p.1.1.1, .string (mkS p.1.1.2), .int .i64 p.1.2.1, .string (mkS p.1.2.2)]]).run Tryz.prog (w2.alloc (.cells #[.int .i64 p.1.1.1, .string (mkS p.1.1.2), .int .i64 p.1.2.1, .string (mkS p.1.2.2)] 163)) = .ok (.round l fn tmps assign body) (w2.alloc (.cells #[.int .i64 p.1.1.1, .string (mkS p.1.1.2), .int .i64 p.1.2.1, .string (mkS p.1.2.2)] 163)) := hy
      have hit3 : ∀ W3, KeepsWalks (w2.alloc (.cells #[.int .i64 p.1.1.1, .string (mkS p.1.1.2), .int .i64 p.1.2.1, .string (mkS p.1.2.2)] 163)) W3 → W3.heap[W.heap.size]? = some (.mapIter (some g) clock (seenOf (D ++ [e])) clock) ∧ W3.heap[g]? = some (.map es clock) ∧ W.heap.size ≤ W3.heap.size := fun W3 hk =>
        ⟨hk.same _ _ (by rw [heap_alloc_lt _ _ hl2]; exact hit2) rfl, hk.same _ _ (by rw [heap_alloc_lt _ _ (lt_of_at hgw2)]; exact hgw2) rfl, by have := hk.size; rw [size_alloc'] at this; omega⟩
      have hHold : (∀ W3, J (L.map (·.1) ++ [p.1]) W3 → KeepsWalks (w2.alloc (.cells #[.int .i64 p.1.1.1, .string (mkS p.1.1.2), .int .i64 p.1.2.1, .string (mkS p.1.2.2)] 163)) W3 →
          (∃ (D : List MapEntry) (L : List ((Par × Par) × Value)), W3.heap[W.heap.size]? = some (.mapIter (some g) clock (seenOf D) clock) ∧ Seen prV es lk D L ∧ W3.heap[g]? = some (.map es clock) ∧ W.heap.size ≤ W3.heap.size ∧ J (L.map (·.1)) W3) ∧ leftN es W.heap.size W3 < leftN es W.heap.size wr) := fun W3 hJ4 hk4 => by
        obtain ⟨a1, a2, a3⟩ := hit3 W3 hk4
        refine ⟨⟨D ++ [e], L ++ [p], a1, hS', a2, a3, by rw [List.map_append]; exact hJ4⟩, ?_⟩
        rw [leftN_eq a1, leftN_eq hit]
        have := hi.lt
        simp; omega
      have hHold := Lib.hid hHold
      clear hS' hS hJs hit hy hJ3 hJ2 hit3 hlen hi hgb hnew hp hY hJ
      gi_wp2
      refine ⟨fun h => (by cases h), hR.mono ?_⟩
      rintro e3 W3 ⟨rfl, hJ4, hk4⟩
      have hfin := hHold.out W3 hJ4 hk4
      clear hHold hJ4 hk4
      gi_wp2
      exact hfin
end Go.Proofs.YtpdboaedoimahaaGreatDoor
end
section
set_option linter.unusedSectionVars false
set_option linter.unusedVariables false
namespace Go.Proofs.YtpdboaedoimahaaGreatDoor
open Go.RowKit Go.MapKept Go.Shelf
set_option maxRecDepth 100000 in
set_option maxHeartbeats 1000000 in
theorem keys1Par (n l Bm g : Nat) (es : Array MapEntry) (clock : Nat) (lk : List (Par × Value)) (J : List Par → World → Prop) (hs : Stamped es clock) (hkv : es.toList.map (fun e => (e.key, e.val)) = lk.map (fun p => (parV p.1, p.2))) (hnd : (lk.map (·.1)).Nodup)
    (hY : ∀ pre x W, J pre W → pre.length < lk.length → YieldAt Fence.wide (n - 1) Tryz.prog l #[parV x] W fun e W' => e = .returned (.bool true) ∧ J (pre ++ [x]) W' ∧ KeepsWalks W W')
    (W : World) (hJ : AbidesFrom W.heap.size J) (hm : W.cell? ⟨Bm, 0, none⟩ = some (.map (some g))) (hg : W.heap[g]? = some (.map es clock)) (h0 : J [] W) :
    CallsIn Fence.wide n Tryz.prog 160 #[.func (.yield l) #[] #[], .pointer (some ⟨Bm, 0, none⟩)] W fun e W' => (∃ v, e = .returned v) ∧ ∃ ss : List Par, (ss.Nodup ∧ ∀ k, k ∈ ss ↔ k ∈ lk.map (·.1)) ∧ J ss W' := by
  have mixed : Tryz.prog.follows .mixedOrders = true := by kernel_rfl
  refine callsIn_of_wp Tryz.func160 rfl trivial ?_ rfl
  simp only [Tryz.ntmps160, List.size_toArray, List.length_cons, List.length_nil, Nat.reduceAdd, Nat.reduceSub, Array.replicate_succ, Array.replicate_zero, List.push_toArray, List.append_toArray, List.nil_append, List.cons_append]
  gi_wp2_with (first
    | (gi_at_range; refine wpListIn_rangeM rfl _ 110 55 109 rfl (by kernel_rfl) g es clock rfl hg ?_)
    | gi_in)
  go_frame
  gi_loopw [3] (fun _ wr => ∃ (D : List MapEntry) (L : List (Par × Value)), wr.heap[W.heap.size]? = some (.mapIter (some g) clock (seenOf D) clock) ∧ Seen parV es lk D L ∧ wr.heap[g]? = some (.map es clock) ∧ W.heap.size ≤ wr.heap.size ∧ J (L.map (·.1)) wr)
    (fun _ wr => leftN es W.heap.size wr)
  case atStart =>
    refine ⟨[], [], heap_alloc_eq _ _, Seen.nil _ _, by rw [heap_alloc_lt _ _ (lt_of_at hg)]; exact hg, by rw [size_alloc']; omega, ?_⟩
    exact hJ [] W _ none h0 ⟨rfl, rfl, rfl, by rw [size_alloc']; omega, fun k hk _ => heap_alloc_lt _ _ hk⟩ (fun r e => by cases e)
  case round =>
    obtain ⟨D, L, hit, hS, hgr, hsz, hJs⟩ := hrel
    gi_wp2_with (first
      | (gi_at_next; refine wpListIn_nextM rfl _ rfl W.heap.size g es clock D rfl hit hgr hs hS.it ?_ ?_)
      | gi_in)
    · intro hp
      gi_wp2
      go_end0
      have hall := hS.all keyPar.inj hkv hp
      exact ⟨⟨_, rfl⟩, L.map (·.1), ⟨hS.nod, fun k => ⟨fun h => by
        obtain ⟨y, hy, rfl⟩ := List.mem_map.1 h
        exact List.mem_map.2 ⟨y, hS.sub y hy, rfl⟩, fun h => by
        obtain ⟨y, hy, rfl⟩ := List.mem_map.1 h
        exact List.mem_map.2 ⟨y, hall y hy, rfl⟩⟩⟩, hJs⟩
    · intro e w2 he0 hi hit2 hgb
      have he : e ∈ es.toList := by simpa using he0
      obtain ⟨p, hp, hek, hev, hnew, hS'⟩ := hS.snoc keyPar.inj hkv hnd he hi
      have hgw2 : w2.heap[g]? = some (.map es clock) := (hgb.block g (lt_of_at hgr) (fun e => by cases e; rw [hit] at hgr; cases hgr)).trans hgr
      have hen := run_entryM (P := Tryz.prog) hit2 hgw2 hs he
      rw [hek, hev, show parV p.1 = .agg #[.int .i64 p.1.1, .string (mkS p.1.2)] from rfl] at hen ⊢
      have hl2 := lt_of_at hit2
      have hlen := hS'.len
      simp only [List.length_append, List.length_cons, List.length_nil] at hlen
      have hJ2 : J (L.map (·.1)) w2 := hJ _ wr w2 (some W.heap.size) hJs hgb (fun r e => by cases e; exact ⟨Nat.le_refl _, _, hit, rfl⟩)
      have hJ3 : J (L.map (·.1)) (w2.alloc (.cells #[.int .i64 p.1.1, .string (mkS p.1.2)] 55)) := hJ _ w2 _ none hJ2 ⟨rfl, rfl, rfl, by rw [size_alloc']; omega, fun k hk _ => heap_alloc_lt _ _ hk⟩ (fun r e => by cases e)
      have hS2 : w2.heap.size ≥ W.heap.size := Nat.le_trans hsz hgb.size
      obtain ⟨fn, tmps, assign, body, hy, hR⟩ := hY (L.map (·.1)) p.1 _ hJ3 (by rw [List.length_map]; omega)
      have hy' : (Instr.yield l #[.agg #[.int .i64 p.1.1, .string (mkS p.1.2)]]).run Tryz.prog (w2.alloc (.cells #[.int .i64 p.1.1, .string (mkS p.1.2)] 55)) = .ok (.round l fn tmps assign body) (w2.alloc (.cells #[.int .i64 p.1.1, .string (mkS p.1.2)] 55)) := hy
      have hit3 : ∀ W3, KeepsWalks (w2.alloc (.cells #[.int .i64 p.1.1, .string (mkS p.1.2)] 55)) W3 → W3.heap[W.heap.size]? = some (.mapIter (some g) clock (seenOf (D ++ [e])) clock) ∧ W3.heap[g]? = some (.map es clock) ∧ W.heap.size ≤ W3.heap.size := fun W3 hk =>
        ⟨hk.same _ _ (by rw [heap_alloc_lt _ _ hl2]; exact hit2) rfl, hk.same _ _ (by rw [heap_alloc_lt _ _ (lt_of_at hgw2)]; exact hgw2) rfl, by have := hk.size; rw [size_alloc'] at this; omega⟩
      have hHold : (∀ W3, J (L.map (·.1) ++ [p.1]) W3 → KeepsWalks (w2.alloc (.cells #[.int .i64 p.1.1, .string (mkS p.1.2)] 55)) W3 →
          (∃ (D : List MapEntry) (L : List (Par × Value)), W3.heap[W.heap.size]? = some (.mapIter (some g) clock (seenOf D) clock) ∧ Seen parV es lk D L ∧ W3.heap[g]? = some (.map es clock) ∧ W.heap.size ≤ W3.heap.size ∧ J (L.map (·.1)) W3) ∧ leftN es W.heap.size W3 < leftN es W.heap.size wr) := fun W3 hJ4 hk4 => by
        obtain ⟨a1, a2, a3⟩ := hit3 W3 hk4
        refine ⟨⟨D ++ [e], L ++ [p], a1, hS', a2, a3, by rw [List.map_append]; exact hJ4⟩, ?_⟩
        rw [leftN_eq a1, leftN_eq hit]
        have := hi.lt
        simp; omega
      have hHold := Lib.hid hHold
      clear hS' hS hJs hit hy hJ3 hJ2 hit3 hlen hi hgb hnew hp hY hJ
      gi_wp2
      refine ⟨fun h => (by cases h), hR.mono ?_⟩
      rintro e3 W3 ⟨rfl, hJ4, hk4⟩
      have hfin := hHold.out W3 hJ4 hk4
      clear hHold hJ4 hk4
      gi_wp2
      exact hfin
end Go.Proofs.YtpdboaedoimahaaGreatDoor
end
section
set_option linter.unusedSectionVars false
set_option linter.unusedVariables false
namespace Go.Proofs.YtpdboaedoimahaaGreatDoor
open Go.RowKit Go.MapKept Go.Shelf
abbrev cellsPar (p : Par) : List Value := [.int .i64 p.1, .string (mkS p.2)]
def apAssignPar : Code := Code.region 2 #[{ dst := some 5, op := Op.alloc 55, type := 0, pos := "iter.go:51", after := #[], guard := none }, { dst := none, op := Op.store 55 (Operand.tmp 5) (Operand.tmp 7), type := 0, pos := "iter.go:51", after := #[{ on := 0, ground := Ground.data }, { on := 0, ground := Ground.phase }], guard := none }] false
def apBodyPar : Code := Code.block 1 (Code.region 3 #[{ dst := some 8, op := Op.load 41 (Operand.tmp 2), type := 41, pos := "iter.go:52", after := #[], guard := none }, { dst := some 9, op := Op.load 55 (Operand.tmp 5), type := 55, pos := "iter.go:52", after := #[], guard := none }, { dst := some 10, op := Op.buildSlice 41 1 #[(0, Operand.tmp 9)], type := 41, pos := "iter.go:52", after := #[{ on := 1, ground := Ground.data }], guard := none }, { dst := some 11, op := Op.call { callee := Callee.builtin Builtin.append, args := #[Operand.tmp 8, Operand.tmp 10], argTypes := #[41, 41] }, type := 41, pos := "iter.go:52", after := #[{ on := 0, ground := Ground.data }, { on := 2, ground := Ground.data }], guard := none }, { dst := none, op := Op.store 41 (Operand.tmp 2) (Operand.tmp 11), type := 0, pos := "iter.go:52", after := #[{ on := 3, ground := Ground.data }, { on := 3, ground := Ground.chain }, { on := 0, ground := Ground.phase }, { on := 1, ground := Ground.phase }, { on := 2, ground := Ground.phase }, { on := 3, ground := Ground.phase }], guard := none }] false)
def apRecPar (fn : FuncId) (sv : Value) (Bs D : Nat) (st : LoopState) (pend : Option Code) : Loop :=
  { state := st, pending := pend, fn, tmps := #[.slice none 0 0, sv, .pointer (some ⟨Bs, 0, none⟩), undef, .slice none 0 0, undef, sv, undef, undef, undef, undef, undef, undef], params := #[7], assign := apAssignPar, body := apBodyPar, defers := D }
structure ApPar (w0 : World) (fn : FuncId) (sv : Value) (Bs l D : Nat) (ss : List Par) (W : World) : Prop where
  box : ∃ v, W.heap[Bs]? = some (.cells #[v] 41 (0, 0)) ∧ W.ownsRow w0.heap.size 55 2 v ss.length (ss.flatMap cellsPar) ∧ (v = .slice none 0 0 ↔ ss = [])
  L : W.heap[l]? = some (.loop (apRecPar fn sv Bs D .ready none))
  K : W.heap[D]? = some (.deferred (some []))
  below : Below w0.heap.size w0 W
theorem apPar_abides (w0 : World) (fn : FuncId) (sv : Value) (Bs l D B : Nat) (hB : w0.heap.size ≤ B) : AbidesFrom B (ApPar w0 fn sv Bs l D) := fun s W W' row h hg hrow => by
  have hrow' : ∀ r, row = some r → ∃ o : Obj, W.heap[r]? = some o ∧ o.isWalk = true := fun r e => (hrow r e).2
  obtain ⟨v, hv, hr, hn⟩ := h.box
  exact ⟨⟨v, (grownBy_keeps hg hrow' hv rfl).trans hv, ownsRow_abides_a hr hg hrow', hn⟩, (grownBy_keeps hg hrow' h.L rfl).trans h.L, (grownBy_keeps hg hrow' h.K rfl).trans h.K,
    h.below.grown hg h.below.size (fun k e => Nat.le_trans hB (hrow k e).1)⟩
theorem cells_new2 (w : World) (x y : Value) (t : TypeId) : ∀ j u, [x, y][j]? = some u → (w.alloc (.cells #[x, y] t)).cell? ((⟨w.heap.size, 0, none⟩ : Addr).add j) = some u := by
  intro j u hj
  have h := heap_alloc_eq w (.cells #[x, y] t)
  match j, hj with
  | 0, hj =>
    rw [show ((⟨w.heap.size, 0, none⟩ : Addr).add 0) = ⟨w.heap.size, 0, none⟩ from rfl]
    unfold World.cell?; rw [h]; simpa using hj
  | 1, hj =>
    rw [show ((⟨w.heap.size, 0, none⟩ : Addr).add 1) = ⟨w.heap.size, 1, none⟩ from rfl]
    unfold World.cell?; rw [h]; simpa using hj
  | j + 2, hj => simp at hj
set_option maxRecDepth 100000 in
set_option maxHeartbeats 4000000 in
theorem apYieldPar (m : Nat) (w0 : World) (fn : FuncId) (sv : Value) (Bs l D : Nat) (hBl : Bs ≠ l) (hDl : D ≠ l) (hDB : D ≠ Bs) (h0B : w0.heap.size ≤ Bs) (h0l : w0.heap.size ≤ l)
    (N : Nat) (hN : N ≤ 1000000) (ss : List Par) (x : Par) (W00 : World) (h00 : ApPar w0 fn sv Bs l D ss W00) (hlen : ss.length < N) :
    YieldAt Fence.wide m Tryz.prog l #[parV x] W00 fun e W' => e = .returned (.bool true) ∧ ApPar w0 fn sv Bs l D (ss ++ [x]) W' ∧ KeepsWalks W00 W' := by
  have mixed : Tryz.prog.follows .mixedOrders = true := by kernel_rfl
  have hne : 41 ≠ 55 := by decide
  obtain ⟨i0, hi, hz0, hz1, hz2⟩ : ∃ i, Tryz.prog.info? 55 = some i ∧ i.zero = some (.agg #[.int .i64 0, .string ⟨#[]⟩]) ∧ i.size = 2 ∧ i.bytes = 24 := ⟨_, rfl, by kernel_rfl, by kernel_rfl, by kernel_rfl⟩
  obtain ⟨xf, xc⟩ := x
  have hmax : maxLen ≥ 1000000 := by decide
  refine ⟨fn, #[.slice none 0 0, sv, .pointer (some ⟨Bs, 0, none⟩), undef, .slice none 0 0, undef, sv, parV (xf, xc), undef, undef, undef, undef, undef], apAssignPar, apBodyPar, by simpa [apRecPar] using run_yield (P := Tryz.prog) (args := #[parV (xf, xc)]) h00.L rfl, roundIn_of_wpIn trivial ?_⟩
  obtain ⟨W, hW⟩ : ∃ W, W00.alloc (.cells #[.int .i64 xf, .string (mkS xc)] 55) = W := ⟨_, rfl⟩
  have h : ApPar w0 fn sv Bs l D ss W := by
    refine apPar_abides w0 fn sv Bs l D w0.heap.size (Nat.le_refl _) ss W00 W none h00 ?_ (fun r e => by cases e)
    rw [← hW]; exact ⟨rfl, rfl, rfl, by rw [size_alloc']; omega, fun k hk _ => heap_alloc_lt _ _ hk⟩
  have hkW : W.heap[W00.heap.size]? = some (.cells #[.int .i64 xf, .string (mkS xc)] 55 (0, 0)) := by rw [← hW]; exact heap_alloc_eq _ _
  have hk00 : KeepsWalks W00 W := by rw [← hW]; exact KeepsWalks.alloc _ _
  obtain ⟨v, hv, hrow, _⟩ := h.box
  have hl : l < W.heap.size := (Array.getElem?_eq_some_iff.1 h.L).1
  have hl0 : l < W00.heap.size := lt_of_at h00.L
  have hbr := run_beginRound (P := Tryz.prog) h.L rfl
  obtain ⟨W2, hW2⟩ : ∃ W2, W.putObj l (.loop { apRecPar fn sv Bs D .ready none with state := .busy }) = W2 := ⟨_, rfl⟩
  rw [hW2] at hbr
  have hg2 : W.grownBy W2 (some l) := by rw [← hW2]; exact grownBy_putObj_a _ _ _
  have hk2 : KeepsWalks W W2 := by rw [← hW2]; exact KeepsWalks.putObj _ h.L rfl
  have hv2 : W2.heap[Bs]? = some (.cells #[v] 41 (0, 0)) := by rw [← hW2]; exact (World.putObj_heap_other hBl).trans hv
  have hK2 : W2.heap[D]? = some (.deferred (some [])) := by rw [← hW2]; exact (World.putObj_heap_other hDl).trans h.K
  have hL2 : W2.heap[l]? = some (.loop { apRecPar fn sv Bs D .ready none with state := .busy }) := by rw [← hW2]; exact World.putObj_heap_same hl
  have hx2 : W2.heap[W00.heap.size]? = some (.cells #[.int .i64 xf, .string (mkS xc)] 55 (0, 0)) := by rw [← hW2]; exact (World.putObj_heap_other (by omega)).trans hkW
  have hrow2 : W2.ownsRow w0.heap.size 55 2 v ss.length (ss.flatMap cellsPar) := hrow.kept hg2 (ownsRow_ne_a hrow h.L (fun cur e => by cases e))
  have hb2 : Below w0.heap.size w0 W2 := h.below.grown hg2 h.below.size (fun k e => by cases e; exact h0l)
  obtain ⟨hc2, hf2⟩ := cell_of_box_a hv2
  have hxc0 : W2.cell? ⟨W00.heap.size, 0, none⟩ = some (.int .i64 xf) := by simp [World.cell?, hx2]
  have hxc1 : W2.cell? ⟨W00.heap.size, 1, none⟩ = some (.string (mkS xc)) := by simp [World.cell?, hx2]
  have hBlt : Bs < W2.heap.size := (Array.getElem?_eq_some_iff.1 hv2).1
  have hl2 : l < W2.heap.size := (Array.getElem?_eq_some_iff.1 hL2).1
  have hDlt : D < W2.heap.size := (Array.getElem?_eq_some_iff.1 hK2).1
  have ne_of : ∀ {j : Nat} {o : Obj}, W2.heap[j]? = some o → (∀ cur, o ≠ .cells cur 55 (0, 0)) → some j ≠ v.ownBlock := fun hj hno => by
    rcases ownsRow_ne_a hrow2 hj hno with e | e
    · rw [e]; simp
    · exact fun e' => e e'.symm
  clear hW2
  unfold apAssignPar
  rw [show parV (xf, xc) = .agg #[.int .i64 xf, .string (mkS xc)] from rfl]
  gi_wp2_with gi_round_op_a
  unfold apBodyPar
  gi_wp2_with (first
    | (gi_at_builtin; refine wpListIn_append_own _ rfl _ _ 41 rfl w0.heap.size 55 i0 (.agg #[.int .i64 0, .string ⟨#[]⟩]) 2 24 (by kernel_rfl) hi hz0 hz1 hz2 rfl (by decide) _ _ _ rfl (hrow2.alloc _) ⟨W2.heap.size, 0, none⟩ 1 1 (cellsPar (xf, xc)) rfl rfl (cells_new2 _ _ _ _) (fun u hu => by simp at hu; rcases hu with rfl | rfl <;> rfl) (by omega) (by omega) (by have := hb2.size; simp; omega) ?_; intro v' w3 hown' hg3 hnil3
       have hv3 : w3.heap[Bs]? = some (.cells #[v] 41 (0, 0)) := (hg3.block Bs (by simp; omega) (ne_of hv2 (fun cur e => by cases e))).trans ((Below.heap_alloc _ _ Bs hBlt).trans hv2)
       obtain ⟨hc3, hf3⟩ := cell_of_box_a hv3
       obtain ⟨g', cap', cur', rfl, hbase', hgb', hr1, hr2, hr3, hr4⟩ : ∃ g' cap' cur', v' = .slice (some ⟨g', 0, none⟩) (ss.length + 1) cap' ∧ w0.heap.size ≤ g' ∧ w3.heap[g']? = some (.cells cur' 55 (0, 0)) ∧ ss.length + 1 ≤ cap' ∧ cap' ≤ maxLen ∧ cur'.size = cap' * 2 ∧ cur'.toList.take ((ss.length + 1) * 2) = ss.flatMap cellsPar ++ cellsPar (xf, xc) := by
         rcases hown'.2 with ⟨_, h0⟩ | h'
         · exact absurd h0 (by omega)
         · exact h'
       go_frame)
    | gi_round_op_a)
  have hg3' : (W2.alloc (.cells #[.int .i64 xf, .string (mkS xc)] 55)).grownBy w3 v.ownBlock := hg3
  have hL3 : w3.heap[l]? = some (.loop { apRecPar fn sv Bs D .ready none with state := .busy }) := (hg3'.block l (by simp; omega) (ne_of hL2 (fun cur e => by cases e))).trans ((Below.heap_alloc _ _ l hl2).trans hL2)
  have hK3 : w3.heap[D]? = some (.deferred (some [])) := (hg3'.block D (by simp; omega) (ne_of hK2 (fun cur e => by cases e))).trans ((Below.heap_alloc _ _ D hDlt).trans hK2)
  obtain ⟨w4, hw4⟩ : ∃ w4, w3.setCell ⟨Bs, 0, none⟩ (.slice (some ⟨g', 0, none⟩) (ss.length + 1) cap') = w4 := ⟨_, rfl⟩
  rw [hw4]
  have hg4 : w3.grownBy w4 (some Bs) := by rw [← hw4]; exact grownBy_setCell0_a _ _ _
  have hv4 : w4.heap[Bs]? = some (.cells #[.slice (some ⟨g', 0, none⟩) (ss.length + 1) cap'] 41 (0, 0)) := by rw [← hw4]; exact heap_setCell_box_a _ hv3
  have hL4 : w4.heap[l]? = some (.loop { apRecPar fn sv Bs D .ready none with state := .busy }) := (hg4.block l (Array.getElem?_eq_some_iff.1 hL3).1 (fun e => hBl (by cases e; rfl))).trans hL3
  have hK4 : w4.heap[D]? = some (.deferred (some [])) := (hg4.block D (Array.getElem?_eq_some_iff.1 hK3).1 (fun e => hDB (by cases e; rfl))).trans hK3
  have hrow4 := hown'.kept hg4 (ownsRow_ne_a hown' hv3 (fun cur e => hne (Obj.cells.inj e).2.1))
  have hl4 : l < w4.heap.size := (Array.getElem?_eq_some_iff.1 hL4).1
  have hb3 : Below w0.heap.size w0 w3 := (hb2.alloc hb2.size _).grown hg3' (by have := hb2.size; simp; omega) (fun k e => (hrow2.lt k e).1)
  have hb4 : Below w0.heap.size w0 w4 := hb3.grown hg4 hb3.size (fun k e => by cases e; exact h0B)
  have hk4 : KeepsWalks W w4 := ((hk2.trans (KeepsWalks.alloc _ _)).trans (KeepsWalks.of_grownBy hg3' (ownsRow_not_walk_a (hrow2.alloc _)))).trans (by rw [← hw4]; exact KeepsWalks.setCell _ _ _)
  clear hw4
  refine ⟨_, _, run_endRound none hL4, rfl, ⟨⟨_, (World.putObj_heap_other hBl).trans hv4, ?_, by simp⟩, World.putObj_heap_same hl4, (World.putObj_heap_other hDl).trans hK4, hb4.grown (grownBy_putObj_a _ _ _) hb4.size (fun k e => by cases e; exact h0l)⟩, hk00.trans (hk4.trans (KeepsWalks.putObj _ hL4 rfl))⟩
  have := hrow4.kept (grownBy_putObj_a w4 l (.loop { { apRecPar fn sv Bs D .ready none with state := .busy } with state := if (none : Option Code).isNone then .ready else .done, pending := none })) (ownsRow_ne_a hrow4 hL4 (fun cur e => by cases e))
  simpa using this
def KeysS (lk : List (Par × Value)) (ss : List Par) : Prop := ss.Nodup ∧ ∀ k, k ∈ ss ↔ k ∈ lk.map (·.1)
set_option maxRecDepth 100000 in
set_option maxHeartbeats 4000000 in
theorem appendSeqPar (n g : Nat) (lb : Array Value) (eg : ∀ args w, (callFunc g args).run Tryz.prog w = .ok (.enter g args) w) (S : List Par → Prop) (N : Nat) (hN : N ≤ 1000000) (w : World) (hseq : SeqGives Fence.wide (n - 1) Tryz.prog g lb parV S N w) :
    CallsIn Fence.wide n Tryz.prog 199 #[.slice none 0 0, .func (.func g) #[] lb] w fun e w' => ∃ (v : Value) (ss : List Par), e = .returned v ∧ S ss ∧ w'.ownsRow w.heap.size 55 2 v ss.length (ss.flatMap cellsPar) ∧ (v = .slice none 0 0 ↔ ss = []) ∧ Below w.heap.size w w' := by
  have mixed : Tryz.prog.follows .mixedOrders = true := by kernel_rfl
  have hne : 41 ≠ 55 := by decide
  have hro : Fence.wide.round = none := rfl
  refine callsIn_of_wp_marks Tryz.func199 rfl trivial ?_ rfl
  simp only [Tryz.ntmps199, List.size_toArray, List.length_cons, List.length_nil, Nat.reduceAdd, Nat.reduceSub, Array.replicate_succ, Array.replicate_zero, List.push_toArray, List.append_toArray, List.nil_append, List.cons_append]
  gi_wp2
  refine wpIn_rangeFunc ?_
  intro fn hfn
  rw [hro]
  obtain ⟨W0, hW0⟩ : ∃ W0, w.alloc (.cells #[.slice none 0 0] 41) = W0 := ⟨_, rfl⟩
  have hs0 : W0.heap.size = w.heap.size + 1 := by rw [← hW0]; simp
  have hv0 : W0.heap[w.heap.size]? = some (.cells #[.slice none 0 0] 41 (0, 0)) := by rw [← hW0]; exact World.alloc_heap_new w _
  have hb0 : Below w.heap.size w W0 := by rw [← hW0]; exact (Below.refl _ w).alloc (Nat.le_refl _) _
  rw [hW0]
  obtain ⟨W1, hW1⟩ : ∃ W1, (W0.alloc (.deferred (some []))).alloc (.loop (apRecPar fn (.func (.func g) #[] lb) w.heap.size W0.heap.size .ready none)) = W1 := ⟨_, rfl⟩
  have hold : ∀ k, k < W0.heap.size → W1.heap[k]? = W0.heap[k]? := fun k hk => by
    rw [← hW1]; exact (Below.heap_alloc _ _ k (by simp; omega)).trans (Below.heap_alloc _ _ k hk)
  have hb1 : Below w.heap.size w W1 := by rw [← hW1]; exact (hb0.alloc hb0.size _).alloc (by have := hb0.size; simp; omega) _
  have hs1 : W1.heap.size = W0.heap.size + 2 := by rw [← hW1]; simp
  have hM : ApPar w fn (.func (.func g) #[] lb) w.heap.size (W0.heap.size + 1) W0.heap.size [] W1 :=
    ⟨⟨_, (hold w.heap.size (by omega)).trans hv0, ⟨rfl, .inl ⟨rfl, rfl⟩⟩, by simp⟩,
     by rw [← hW1]; have := World.alloc_heap_new (W0.alloc (.deferred (some []))) (.loop (apRecPar fn (.func (.func g) #[] lb) w.heap.size W0.heap.size .ready none)); rwa [World.size_alloc] at this,
     by rw [← hW1]; exact (Below.heap_alloc _ _ _ (by simp)).trans (World.alloc_heap_new W0 _), hb1⟩
  refine ⟨W0.heap.size + 1, [{ target := .collected W0.heap.size, args := #[] }], W1, { target := .fn (.func g) lb, args := #[.func (.yield (W0.heap.size + 1)) #[] #[]] }, W1, g,
    #[.func (.yield (W0.heap.size + 1)) #[] #[]] ++ lb, W1, ?_, ?_, ?_, ?_, fun h => (by cases h), ?_⟩
  · rw [← hW1]; exact run_enterLoop_outer _ _ _ _ _
  · simp [resolve, go_sem]
  · intro f' hf'; exact trivial
  · simp [invoke, go_sem, eg]
  · refine (hseq (W0.heap.size + 1) (ApPar w fn (.func (.func g) #[] lb) w.heap.size (W0.heap.size + 1) W0.heap.size) W1 hb1 (apPar_abides _ _ _ _ _ _ _ hb1.size)
      (fun pre x W hJ hl => apYieldPar (n - 1 - 1) w fn _ w.heap.size (W0.heap.size + 1) W0.heap.size (by omega) (by omega) (by omega) (Nat.le_refl _) (by omega) N hN pre x W hJ hl) hM).mono ?_
    rintro e W2 ⟨⟨v0, rfl⟩, ss, hS, h2⟩
    obtain ⟨v, hv, hrow, hnil⟩ := h2.box
    have hend := run_endLoop (P := Tryz.prog) h2.L (by simp [apRecPar])
    obtain ⟨W3, hW3⟩ : ∃ W3, W2.putObj (W0.heap.size + 1) (.loop { apRecPar fn (.func (.func g) #[] lb) w.heap.size W0.heap.size .ready none with state := .exhausted }) = W3 := ⟨_, rfl⟩
    rw [hW3] at hend
    have hg3 : W2.grownBy W3 (some (W0.heap.size + 1)) := by rw [← hW3]; exact grownBy_putObj_a _ _ _
    have hv3 : W3.heap[w.heap.size]? = some (.cells #[v] 41 (0, 0)) := by rw [← hW3]; exact (World.putObj_heap_other (by omega)).trans hv
    have hK3 : W3.heap[W0.heap.size]? = some (.deferred (some [])) := by rw [← hW3]; exact (World.putObj_heap_other (by omega)).trans h2.K
    have hrow3 := hrow.kept hg3 (ownsRow_ne_a hrow h2.L (fun cur e => by cases e))
    have hb3 : Below w.heap.size w W3 := h2.below.grown hg3 h2.below.size (fun k e => by cases e; omega)
    obtain ⟨hc3, hf3⟩ := cell_of_box_a hv3
    clear hW3
    refine ⟨none, W3, hend, ?_⟩
    gi_wp2
    rw [← hs0]
    refine ⟨by simp, .inl ⟨_, _, rfl, run_takeDeferred hK3, ?_⟩⟩
    exact ⟨_, results_tmp rfl _ _ _, v, ss, rfl, hS, hrow3.kept (grownBy_putObj_a _ _ _) (ownsRow_ne_a hrow3 hK3 (fun cur e => by cases e)), hnil, hb3.grown (grownBy_putObj_a _ _ _) hb3.size (fun k e => by cases e; omega)⟩
theorem keysGivesPar (n Bm g : Nat) (es : Array MapEntry) (clock : Nat) (lk : List (Par × Value)) (hs : Stamped es clock) (hkv : es.toList.map (fun e => (e.key, e.val)) = lk.map (fun p => (parV p.1, p.2))) (hnd : (lk.map (·.1)).Nodup) (w : World) (hm : w.cell? ⟨Bm, 0, none⟩ = some (.map (some g))) (hBm : Bm < w.heap.size) (hg : w.heap[g]? = some (.map es clock)) :
    SeqGives Fence.wide n Tryz.prog 160 #[.pointer (some ⟨Bm, 0, none⟩)] parV (KeysS lk) lk.length w := fun l J W hW hJ hY h0 => by
  exact keys1Par n l Bm g es clock lk J hs hkv hnd hY W hJ ((hW.cell (p := ⟨Bm, 0, none⟩) hBm).trans hm) ((hW.block g (lt_of_at hg)).trans hg) h0
set_option maxHeartbeats 4000000 in
theorem collectPar (g : Nat) (lb : Array Value) (eg : ∀ args w, (callFunc g args).run Tryz.prog w = .ok (.enter g args) w) (S : List Par → Prop) (N : Nat) (hN : N ≤ 1000000) (w : World) (hseq : SeqGives Fence.wide 0 Tryz.prog g lb parV S N w) :
    Calls Tryz.prog 159 #[.func (.func g) #[] lb] w fun e w' => ∃ (v : Value) (ss : List Par), e = .returned v ∧ S ss ∧ w'.ownsRow w.heap.size 55 2 v ss.length (ss.flatMap cellsPar) ∧ (v = .slice none 0 0 ↔ ss = []) ∧ Below w.heap.size w w' := by
  have mixed : Tryz.prog.follows .mixedOrders = true := by kernel_rfl
  have c1 := callsIn_wide.1 (appendSeqPar 1 g lb eg S N hN w hseq)
  clear hseq
  go_enter Tryz.func159, Tryz.ntmps159
  go_wp2_with (go_at_call 199; refine c1.mono ?_; rintro e w' ⟨v, ss, rfl, hS, hrow, hnil, hb⟩)
  go_ret
  exact ⟨v, ss, rfl, hS, hrow, hnil, hb⟩
end Go.Proofs.YtpdboaedoimahaaGreatDoor
end
section
set_option linter.unusedSectionVars false
set_option linter.unusedVariables false
namespace Go.Proofs.YtpdboaedoimahaaGreatDoor
open Go.RowKit Go.MapKept Go.Shelf
abbrev cellsPr (p : Par × Par) : List Value := [.int .i64 p.1.1, .string (mkS p.1.2), .int .i64 p.2.1, .string (mkS p.2.2)]
def apAssignPr : Code := Code.region 2 #[{ dst := some 5, op := Op.alloc 163, type := 0, pos := "iter.go:51", after := #[], guard := none }, { dst := none, op := Op.store 163 (Operand.tmp 5) (Operand.tmp 7), type := 0, pos := "iter.go:51", after := #[{ on := 0, ground := Ground.data }, { on := 0, ground := Ground.phase }], guard := none }] false
def apBodyPr : Code := Code.block 1 (Code.region 3 #[{ dst := some 8, op := Op.load 174 (Operand.tmp 2), type := 174, pos := "iter.go:52", after := #[], guard := none }, { dst := some 9, op := Op.load 163 (Operand.tmp 5), type := 163, pos := "iter.go:52", after := #[], guard := none }, { dst := some 10, op := Op.buildSlice 174 1 #[(0, Operand.tmp 9)], type := 174, pos := "iter.go:52", after := #[{ on := 1, ground := Ground.data }], guard := none }, { dst := some 11, op := Op.call { callee := Callee.builtin Builtin.append, args := #[Operand.tmp 8, Operand.tmp 10], argTypes := #[174, 174] }, type := 174, pos := "iter.go:52", after := #[{ on := 0, ground := Ground.data }, { on := 2, ground := Ground.data }], guard := none }, { dst := none, op := Op.store 174 (Operand.tmp 2) (Operand.tmp 11), type := 0, pos := "iter.go:52", after := #[{ on := 3, ground := Ground.data }, { on := 3, ground := Ground.chain }, { on := 0, ground := Ground.phase }, { on := 1, ground := Ground.phase }, { on := 2, ground := Ground.phase }, { on := 3, ground := Ground.phase }], guard := none }] false)
def apRecPr (fn : FuncId) (sv : Value) (Bs D : Nat) (st : LoopState) (pend : Option Code) : Loop :=
  { state := st, pending := pend, fn, tmps := #[.slice none 0 0, sv, .pointer (some ⟨Bs, 0, none⟩), undef, .slice none 0 0, undef, sv, undef, undef, undef, undef, undef, undef], params := #[7], assign := apAssignPr, body := apBodyPr, defers := D }
structure ApPr (w0 : World) (fn : FuncId) (sv : Value) (Bs l D : Nat) (ss : List (Par × Par)) (W : World) : Prop where
  box : ∃ v, W.heap[Bs]? = some (.cells #[v] 174 (0, 0)) ∧ W.ownsRow w0.heap.size 163 4 v ss.length (ss.flatMap cellsPr) ∧ (v = .slice none 0 0 ↔ ss = [])
  L : W.heap[l]? = some (.loop (apRecPr fn sv Bs D .ready none))
  K : W.heap[D]? = some (.deferred (some []))
  below : Below w0.heap.size w0 W
theorem apPr_abides (w0 : World) (fn : FuncId) (sv : Value) (Bs l D B : Nat) (hB : w0.heap.size ≤ B) : AbidesFrom B (ApPr w0 fn sv Bs l D) := fun s W W' row h hg hrow => by
  have hrow' : ∀ r, row = some r → ∃ o : Obj, W.heap[r]? = some o ∧ o.isWalk = true := fun r e => (hrow r e).2
  obtain ⟨v, hv, hr, hn⟩ := h.box
  exact ⟨⟨v, (grownBy_keeps hg hrow' hv rfl).trans hv, ownsRow_abides_a hr hg hrow', hn⟩, (grownBy_keeps hg hrow' h.L rfl).trans h.L, (grownBy_keeps hg hrow' h.K rfl).trans h.K,
    h.below.grown hg h.below.size (fun k e => Nat.le_trans hB (hrow k e).1)⟩
theorem cells_new4 (w : World) (x y x' y' : Value) (t : TypeId) : ∀ j u, [x, y, x', y'][j]? = some u → (w.alloc (.cells #[x, y, x', y'] t)).cell? ((⟨w.heap.size, 0, none⟩ : Addr).add j) = some u := by
  intro j u hj
  have h := heap_alloc_eq w (.cells #[x, y, x', y'] t)
  match j, hj with
  | 0, hj =>
    rw [show ((⟨w.heap.size, 0, none⟩ : Addr).add 0) = ⟨w.heap.size, 0, none⟩ from rfl]
    unfold World.cell?; rw [h]; simpa using hj
  | 1, hj =>
    rw [show ((⟨w.heap.size, 0, none⟩ : Addr).add 1) = ⟨w.heap.size, 1, none⟩ from rfl]
    unfold World.cell?; rw [h]; simpa using hj
  | 2, hj =>
    rw [show ((⟨w.heap.size, 0, none⟩ : Addr).add 2) = ⟨w.heap.size, 2, none⟩ from rfl]
    unfold World.cell?; rw [h]; simpa using hj
  | 3, hj =>
    rw [show ((⟨w.heap.size, 0, none⟩ : Addr).add 3) = ⟨w.heap.size, 3, none⟩ from rfl]
    unfold World.cell?; rw [h]; simpa using hj
  | j + 4, hj => simp at hj
set_option maxRecDepth 100000 in
set_option maxHeartbeats 4000000 in
theorem apYieldPr (m : Nat) (w0 : World) (fn : FuncId) (sv : Value) (Bs l D : Nat) (hBl : Bs ≠ l) (hDl : D ≠ l) (hDB : D ≠ Bs) (h0B : w0.heap.size ≤ Bs) (h0l : w0.heap.size ≤ l)
    (N : Nat) (hN : N ≤ 1000000) (ss : List (Par × Par)) (x : Par × Par) (W00 : World) (h00 : ApPr w0 fn sv Bs l D ss W00) (hlen : ss.length < N) :
    YieldAt Fence.wide m Tryz.prog l #[prV x] W00 fun e W' => e = .returned (.bool true) ∧ ApPr w0 fn sv Bs l D (ss ++ [x]) W' ∧ KeepsWalks W00 W' := by
  have mixed : Tryz.prog.follows .mixedOrders = true := by kernel_rfl
  have hne : 174 ≠ 163 := by decide
  obtain ⟨i0, hi, hz0, hz1, hz2⟩ : ∃ i, Tryz.prog.info? 163 = some i ∧ i.zero = some (.agg #[.int .i64 0, .string ⟨#[]⟩, .int .i64 0, .string ⟨#[]⟩]) ∧ i.size = 4 ∧ i.bytes = 48 := ⟨_, rfl, by kernel_rfl, by kernel_rfl, by kernel_rfl⟩
  obtain ⟨⟨xf, xc⟩, ⟨yf, yc⟩⟩ := x
  have hmax : maxLen ≥ 1000000 := by decide
  refine ⟨fn, #[.slice none 0 0, sv, .pointer (some ⟨Bs, 0, none⟩), undef, .slice none 0 0, undef, sv, prV ((xf, xc), (yf, yc)), undef, undef, undef, undef, undef], apAssignPr, apBodyPr, by simpa [apRecPr] using run_yield (P := Tryz.prog) (args := #[prV ((xf, xc), (yf, yc))]) h00.L rfl, roundIn_of_wpIn trivial ?_⟩
  obtain ⟨W, hW⟩ : ∃ W, W00.alloc (.cells #[.int .i64 xf, .string (mkS xc), .int .i64 yf, .string (mkS yc)] 163) = W := ⟨_, rfl⟩
  have h : ApPr w0 fn sv Bs l D ss W := by
    refine apPr_abides w0 fn sv Bs l D w0.heap.size (Nat.le_refl _) ss W00 W none h00 ?_ (fun r e => by cases e)
    rw [← hW]; exact ⟨rfl, rfl, rfl, by rw [size_alloc']; omega, fun k hk _ => heap_alloc_lt _ _ hk⟩
  have hkW : W.heap[W00.heap.size]? = some (.cells #[.int .i64 xf, .string (mkS xc), .int .i64 yf, .string (mkS yc)] 163 (0, 0)) := by rw [← hW]; exact heap_alloc_eq _ _
  have hk00 : KeepsWalks W00 W := by rw [← hW]; exact KeepsWalks.alloc _ _
  obtain ⟨v, hv, hrow, _⟩ := h.box
  have hl : l < W.heap.size := (Array.getElem?_eq_some_iff.1 h.L).1
  have hl0 : l < W00.heap.size := lt_of_at h00.L
  have hbr := run_beginRound (P := Tryz.prog) h.L rfl
  obtain ⟨W2, hW2⟩ : ∃ W2, W.putObj l (.loop { apRecPr fn sv Bs D .ready none with state := .busy }) = W2 := ⟨_, rfl⟩
  rw [hW2] at hbr
  have hg2 : W.grownBy W2 (some l) := by rw [← hW2]; exact grownBy_putObj_a _ _ _
  have hk2 : KeepsWalks W W2 := by rw [← hW2]; exact KeepsWalks.putObj _ h.L rfl
  have hv2 : W2.heap[Bs]? = some (.cells #[v] 174 (0, 0)) := by rw [← hW2]; exact (World.putObj_heap_other hBl).trans hv
  have hK2 : W2.heap[D]? = some (.deferred (some [])) := by rw [← hW2]; exact (World.putObj_heap_other hDl).trans h.K
  have hL2 : W2.heap[l]? = some (.loop { apRecPr fn sv Bs D .ready none with state := .busy }) := by rw [← hW2]; exact World.putObj_heap_same hl
  have hx2 : W2.heap[W00.heap.size]? = some (.cells #[.int .i64 xf, .string (mkS xc), .int .i64 yf, .string (mkS yc)] 163 (0, 0)) := by rw [← hW2]; exact (World.putObj_heap_other (by omega)).trans hkW
  have hrow2 : W2.ownsRow w0.heap.size 163 4 v ss.length (ss.flatMap cellsPr) := hrow.kept hg2 (ownsRow_ne_a hrow h.L (fun cur e => by cases e))
  have hb2 : Below w0.heap.size w0 W2 := h.below.grown hg2 h.below.size (fun k e => by cases e; exact h0l)
  obtain ⟨hc2, hf2⟩ := cell_of_box_a hv2
  have hxc0 : W2.cell? ⟨W00.heap.size, 0, none⟩ = some (.int .i64 xf) := by simp [World.cell?, hx2]
  have hxc1 : W2.cell? ⟨W00.heap.size, 1, none⟩ = some (.string (mkS xc)) := by simp [World.cell?, hx2]
  have hxc2 : W2.cell? ⟨W00.heap.size, 2, none⟩ = some (.int .i64 yf) := by simp [World.cell?, hx2]
  have hxc3 : W2.cell? ⟨W00.heap.size, 3, none⟩ = some (.string (mkS yc)) := by simp [World.cell?, hx2]
  have hBlt : Bs < W2.heap.size := (Array.getElem?_eq_some_iff.1 hv2).1
  have hl2 : l < W2.heap.size := (Array.getElem?_eq_some_iff.1 hL2).1
  have hDlt : D < W2.heap.size := (Array.getElem?_eq_some_iff.1 hK2).1
  have ne_of : ∀ {j : Nat} {o : Obj}, W2.heap[j]? = some o → (∀ cur, o ≠ .cells cur 163 (0, 0)) → some j ≠ v.ownBlock := fun hj hno => by
    rcases ownsRow_ne_a hrow2 hj hno with e | e
    · rw [e]; simp
    · exact fun e' => e e'.symm
  clear hW2
  unfold apAssignPr
  rw [show prV ((xf, xc), (yf, yc)) = .agg #[.int .i64 xf, .string (mkS xc), .int .i64 yf, .string (mkS yc)] from rfl]
  gi_wp2_with gi_round_op_a
  unfold apBodyPr
  gi_wp2_with (first
    | (gi_at_builtin; refine wpListIn_append_own _ rfl _ _ 174 rfl w0.heap.size 163 i0 (.agg #[.int .i64 0, .string ⟨#[]⟩, .int .i64 0, .string ⟨#[]⟩]) 4 48 (by kernel_rfl) hi hz0 hz1 hz2 rfl (by decide) _ _ _ rfl (hrow2.alloc _) ⟨W2.heap.size, 0, none⟩ 1 1 (cellsPr ((xf, xc), (yf, yc))) rfl rfl (cells_new4 _ _ _ _ _ _) (fun u hu => by simp at hu; rcases hu with rfl | rfl | rfl | rfl <;> rfl) (by omega) (by omega) (by have := hb2.size; simp; omega) ?_; intro v' w3 hown' hg3 hnil3
       have hv3 : w3.heap[Bs]? = some (.cells #[v] 174 (0, 0)) := (hg3.block Bs (by simp; omega) (ne_of hv2 (fun cur e => by cases e))).trans ((Below.heap_alloc _ _ Bs hBlt).trans hv2)
       obtain ⟨hc3, hf3⟩ := cell_of_box_a hv3
       obtain ⟨g', cap', cur', rfl, hbase', hgb', hr1, hr2, hr3, hr4⟩ : ∃ g' cap' cur', v' = .slice (some ⟨g', 0, none⟩) (ss.length + 1) cap' ∧ w0.heap.size ≤ g' ∧ w3.heap[g']? = some (.cells cur' 163 (0, 0)) ∧ ss.length + 1 ≤ cap' ∧ cap' ≤ maxLen ∧ cur'.size = cap' * 4 ∧ cur'.toList.take ((ss.length + 1) * 4) = ss.flatMap cellsPr ++ cellsPr ((xf, xc), (yf, yc)) := by
         rcases hown'.2 with ⟨_, h0⟩ | h'
         · exact absurd h0 (by omega)
         · exact h'
       go_frame)
    | gi_round_op_a)
  have hg3' : (W2.alloc (.cells #[.int .i64 xf, .string (mkS xc), .int .i64 yf, .string (mkS yc)] 163)).grownBy w3 v.ownBlock := hg3
  have hL3 : w3.heap[l]? = some (.loop { apRecPr fn sv Bs D .ready none with state := .busy }) := (hg3'.block l (by simp; omega) (ne_of hL2 (fun cur e => by cases e))).trans ((Below.heap_alloc _ _ l hl2).trans hL2)
  have hK3 : w3.heap[D]? = some (.deferred (some [])) := (hg3'.block D (by simp; omega) (ne_of hK2 (fun cur e => by cases e))).trans ((Below.heap_alloc _ _ D hDlt).trans hK2)
  obtain ⟨w4, hw4⟩ : ∃ w4, w3.setCell ⟨Bs, 0, none⟩ (.slice (some ⟨g', 0, none⟩) (ss.length + 1) cap') = w4 := ⟨_, rfl⟩
  rw [hw4]
  have hg4 : w3.grownBy w4 (some Bs) := by rw [← hw4]; exact grownBy_setCell0_a _ _ _
  have hv4 : w4.heap[Bs]? = some (.cells #[.slice (some ⟨g', 0, none⟩) (ss.length + 1) cap'] 174 (0, 0)) := by rw [← hw4]; exact heap_setCell_box_a _ hv3
  have hL4 : w4.heap[l]? = some (.loop { apRecPr fn sv Bs D .ready none with state := .busy }) := (hg4.block l (Array.getElem?_eq_some_iff.1 hL3).1 (fun e => hBl (by cases e; rfl))).trans hL3
  have hK4 : w4.heap[D]? = some (.deferred (some [])) := (hg4.block D (Array.getElem?_eq_some_iff.1 hK3).1 (fun e => hDB (by cases e; rfl))).trans hK3
  have hrow4 := hown'.kept hg4 (ownsRow_ne_a hown' hv3 (fun cur e => hne (Obj.cells.inj e).2.1))
  have hl4 : l < w4.heap.size := (Array.getElem?_eq_some_iff.1 hL4).1
  have hb3 : Below w0.heap.size w0 w3 := (hb2.alloc hb2.size _).grown hg3' (by have := hb2.size; simp; omega) (fun k e => (hrow2.lt k e).1)
  have hb4 : Below w0.heap.size w0 w4 := hb3.grown hg4 hb3.size (fun k e => by cases e; exact h0B)
  have hk4 : KeepsWalks W w4 := ((hk2.trans (KeepsWalks.alloc _ _)).trans (KeepsWalks.of_grownBy hg3' (ownsRow_not_walk_a (hrow2.alloc _)))).trans (by rw [← hw4]; exact KeepsWalks.setCell _ _ _)
  clear hw4
  refine ⟨_, _, run_endRound none hL4, rfl, ⟨⟨_, (World.putObj_heap_other hBl).trans hv4, ?_, by simp⟩, World.putObj_heap_same hl4, (World.putObj_heap_other hDl).trans hK4, hb4.grown (grownBy_putObj_a _ _ _) hb4.size (fun k e => by cases e; exact h0l)⟩, hk00.trans (hk4.trans (KeepsWalks.putObj _ hL4 rfl))⟩
  have := hrow4.kept (grownBy_putObj_a w4 l (.loop { { apRecPr fn sv Bs D .ready none with state := .busy } with state := if (none : Option Code).isNone then .ready else .done, pending := none })) (ownsRow_ne_a hrow4 hL4 (fun cur e => by cases e))
  simpa using this
def KeysQ (lk : List ((Par × Par) × Value)) (ss : List (Par × Par)) : Prop := ss.Nodup ∧ ∀ k, k ∈ ss ↔ k ∈ lk.map (·.1)
set_option maxRecDepth 100000 in
set_option maxHeartbeats 4000000 in
theorem appendSeqPr (n g : Nat) (lb : Array Value) (eg : ∀ args w, (callFunc g args).run Tryz.prog w = .ok (.enter g args) w) (S : List (Par × Par) → Prop) (N : Nat) (hN : N ≤ 1000000) (w : World) (hseq : SeqGives Fence.wide (n - 1) Tryz.prog g lb prV S N w) :
    CallsIn Fence.wide n Tryz.prog 200 #[.slice none 0 0, .func (.func g) #[] lb] w fun e w' => ∃ (v : Value) (ss : List (Par × Par)), e = .returned v ∧ S ss ∧ w'.ownsRow w.heap.size 163 4 v ss.length (ss.flatMap cellsPr) ∧ (v = .slice none 0 0 ↔ ss = []) ∧ Below w.heap.size w w' := by
  have mixed : Tryz.prog.follows .mixedOrders = true := by kernel_rfl
  have hne : 174 ≠ 163 := by decide
  have hro : Fence.wide.round = none := rfl
  refine callsIn_of_wp_marks Tryz.func200 rfl trivial ?_ rfl
  simp only [Tryz.ntmps200, List.size_toArray, List.length_cons, List.length_nil, Nat.reduceAdd, Nat.reduceSub, Array.replicate_succ, Array.replicate_zero, List.push_toArray, List.append_toArray, List.nil_append, List.cons_append]
  gi_wp2
  refine wpIn_rangeFunc ?_
  intro fn hfn
  rw [hro]
  obtain ⟨W0, hW0⟩ : ∃ W0, w.alloc (.cells #[.slice none 0 0] 174) = W0 := ⟨_, rfl⟩
  have hs0 : W0.heap.size = w.heap.size + 1 := by rw [← hW0]; simp
  have hv0 : W0.heap[w.heap.size]? = some (.cells #[.slice none 0 0] 174 (0, 0)) := by rw [← hW0]; exact World.alloc_heap_new w _
  have hb0 : Below w.heap.size w W0 := by rw [← hW0]; exact (Below.refl _ w).alloc (Nat.le_refl _) _
  rw [hW0]
  obtain ⟨W1, hW1⟩ : ∃ W1, (W0.alloc (.deferred (some []))).alloc (.loop (apRecPr fn (.func (.func g) #[] lb) w.heap.size W0.heap.size .ready none)) = W1 := ⟨_, rfl⟩
  have hold : ∀ k, k < W0.heap.size → W1.heap[k]? = W0.heap[k]? := fun k hk => by
    rw [← hW1]; exact (Below.heap_alloc _ _ k (by simp; omega)).trans (Below.heap_alloc _ _ k hk)
  have hb1 : Below w.heap.size w W1 := by rw [← hW1]; exact (hb0.alloc hb0.size _).alloc (by have := hb0.size; simp; omega) _
  have hs1 : W1.heap.size = W0.heap.size + 2 := by rw [← hW1]; simp
  have hM : ApPr w fn (.func (.func g) #[] lb) w.heap.size (W0.heap.size + 1) W0.heap.size [] W1 :=
    ⟨⟨_, (hold w.heap.size (by omega)).trans hv0, ⟨rfl, .inl ⟨rfl, rfl⟩⟩, by simp⟩,
     by rw [← hW1]; have := World.alloc_heap_new (W0.alloc (.deferred (some []))) (.loop (apRecPr fn (.func (.func g) #[] lb) w.heap.size W0.heap.size .ready none)); rwa [World.size_alloc] at this,
     by rw [← hW1]; exact (Below.heap_alloc _ _ _ (by simp)).trans (World.alloc_heap_new W0 _), hb1⟩
  refine ⟨W0.heap.size + 1, [{ target := .collected W0.heap.size, args := #[] }], W1, { target := .fn (.func g) lb, args := #[.func (.yield (W0.heap.size + 1)) #[] #[]] }, W1, g,
    #[.func (.yield (W0.heap.size + 1)) #[] #[]] ++ lb, W1, ?_, ?_, ?_, ?_, fun h => (by cases h), ?_⟩
  · rw [← hW1]; exact run_enterLoop_outer _ _ _ _ _
  · simp [resolve, go_sem]
  · intro f' hf'; exact trivial
  · simp [invoke, go_sem, eg]
  · refine (hseq (W0.heap.size + 1) (ApPr w fn (.func (.func g) #[] lb) w.heap.size (W0.heap.size + 1) W0.heap.size) W1 hb1 (apPr_abides _ _ _ _ _ _ _ hb1.size)
      (fun pre x W hJ hl => apYieldPr (n - 1 - 1) w fn _ w.heap.size (W0.heap.size + 1) W0.heap.size (by omega) (by omega) (by omega) (Nat.le_refl _) (by omega) N hN pre x W hJ hl) hM).mono ?_
    rintro e W2 ⟨⟨v0, rfl⟩, ss, hS, h2⟩
    obtain ⟨v, hv, hrow, hnil⟩ := h2.box
    have hend := run_endLoop (P := Tryz.prog) h2.L (by simp [apRecPr])
    obtain ⟨W3, hW3⟩ : ∃ W3, W2.putObj (W0.heap.size + 1) (.loop { apRecPr fn (.func (.func g) #[] lb) w.heap.size W0.heap.size .ready none with state := .exhausted }) = W3 := ⟨_, rfl⟩
    rw [hW3] at hend
    have hg3 : W2.grownBy W3 (some (W0.heap.size + 1)) := by rw [← hW3]; exact grownBy_putObj_a _ _ _
    have hv3 : W3.heap[w.heap.size]? = some (.cells #[v] 174 (0, 0)) := by rw [← hW3]; exact (World.putObj_heap_other (by omega)).trans hv
    have hK3 : W3.heap[W0.heap.size]? = some (.deferred (some [])) := by rw [← hW3]; exact (World.putObj_heap_other (by omega)).trans h2.K
    have hrow3 := hrow.kept hg3 (ownsRow_ne_a hrow h2.L (fun cur e => by cases e))
    have hb3 : Below w.heap.size w W3 := h2.below.grown hg3 h2.below.size (fun k e => by cases e; omega)
    obtain ⟨hc3, hf3⟩ := cell_of_box_a hv3
    clear hW3
    refine ⟨none, W3, hend, ?_⟩
    gi_wp2
    rw [← hs0]
    refine ⟨by simp, .inl ⟨_, _, rfl, run_takeDeferred hK3, ?_⟩⟩
    exact ⟨_, results_tmp rfl _ _ _, v, ss, rfl, hS, hrow3.kept (grownBy_putObj_a _ _ _) (ownsRow_ne_a hrow3 hK3 (fun cur e => by cases e)), hnil, hb3.grown (grownBy_putObj_a _ _ _) hb3.size (fun k e => by cases e; omega)⟩
theorem keysGivesPr (n Bm g : Nat) (es : Array MapEntry) (clock : Nat) (lk : List ((Par × Par) × Value)) (hs : Stamped es clock) (hkv : es.toList.map (fun e => (e.key, e.val)) = lk.map (fun p => (prV p.1, p.2))) (hnd : (lk.map (·.1)).Nodup) (w : World) (hm : w.cell? ⟨Bm, 0, none⟩ = some (.map (some g))) (hBm : Bm < w.heap.size) (hg : w.heap[g]? = some (.map es clock)) :
    SeqGives Fence.wide n Tryz.prog 163 #[.pointer (some ⟨Bm, 0, none⟩)] prV (KeysQ lk) lk.length w := fun l J W hW hJ hY h0 => by
  exact keys1Pr n l Bm g es clock lk J hs hkv hnd hY W hJ ((hW.cell (p := ⟨Bm, 0, none⟩) hBm).trans hm) ((hW.block g (lt_of_at hg)).trans hg) h0
set_option maxHeartbeats 4000000 in
theorem collectPr (g : Nat) (lb : Array Value) (eg : ∀ args w, (callFunc g args).run Tryz.prog w = .ok (.enter g args) w) (S : List (Par × Par) → Prop) (N : Nat) (hN : N ≤ 1000000) (w : World) (hseq : SeqGives Fence.wide 0 Tryz.prog g lb prV S N w) :
    Calls Tryz.prog 161 #[.func (.func g) #[] lb] w fun e w' => ∃ (v : Value) (ss : List (Par × Par)), e = .returned v ∧ S ss ∧ w'.ownsRow w.heap.size 163 4 v ss.length (ss.flatMap cellsPr) ∧ (v = .slice none 0 0 ↔ ss = []) ∧ Below w.heap.size w w' := by
  have mixed : Tryz.prog.follows .mixedOrders = true := by kernel_rfl
  have c1 := callsIn_wide.1 (appendSeqPr 1 g lb eg S N hN w hseq)
  clear hseq
  go_enter Tryz.func161, Tryz.ntmps161
  go_wp2_with (go_at_call 200; refine c1.mono ?_; rintro e w' ⟨v, ss, rfl, hS, hrow, hnil, hb⟩)
  go_ret
  exact ⟨v, ss, rfl, hS, hrow, hnil, hb⟩
end Go.Proofs.YtpdboaedoimahaaGreatDoor
end
