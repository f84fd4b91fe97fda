/- Joined out of parts of one proof by a program: contracts of the functions that the statement reaches, and the plain facts behind them. -/
import Derived.Test.YtpdboaedoimahaaGreatDoorKD01
import Derived.Deep.LoopGhost
import Derived.WalkKit
import Derived.Lib.Hide
import Derived.Test.YtpdboaedoimahaaGreatDoorProg
import Derived.KernelRfl
import Derived.Deep.QuietTactic
import Derived.BigQuiet
import Derived.RegionTactic
import Derived.ChangeAlike
import Derived.Outline
set_option linter.unusedVariables false
set_option linter.unusedSimpArgs false
set_option linter.unusedSectionVars false
section
set_option linter.unusedSectionVars false
set_option linter.unusedSimpArgs false
namespace Go.Proofs.YtpdboaedoimahaaGreatDoor
variable [Flag]
class Mixed (P : Program) : Prop where
 mx : P.follows .mixedOrders = true
structure G (P : Program) (fn : Func) (Post : Spec) (st : List KI × S) (u m : PH) : Prop where
 out : Sym P fn Post st.1 st.2 u m
def adv (P : Program) (st : List KI × S) : List KI × S := run P 3000 st
def ctl (P : Program) : Nat → List KI × S → List KI × S
 | 0, st => st
 | n + 1, st => cond (noReg st.1) st (match one P st.1 st.2 with | some st' => ctl P n st' | none => st)
def nx (st : List KI × S) (v : Value) : List KI × S :=
 match st.1 with
 | .reg id ops dr (i :: l) :: k => match ops[i]? with
  | some o => (.reg id ops dr l :: k, st.2.put o.dst (.v v))
  | none => st
 | _ => st
def elemSz (P : Program) (t : TypeId) : Option Nat := match P.underlying t with | some (.slice e) => szB P e | _ => none
def elInfo (P : Program) (t : TypeId) : Option (TypeId × Nat × Nat × Value) :=
 match P.underlying t with
 | some (.slice e) => match P.info? e with
  | some i => match i.zero with | some z => some (e, i.size, i.bytes, z) | none => none
  | none => none
 | _ => none
def ldKind (P : Program) (t : TypeId) : Option (Option Nat) :=
 match aggB P t with
 | some true => match szB P t with | some n => some (some n) | none => none
 | some false => some none
 | none => none
inductive Stop where
 | other
 | bin (op : BinOp) (x y : Value)
 | binT (op : BinOp) (t : Option TypeDesc) (x y : Value)
 | un (op : UnOp) (x : Value)
 | conv (src dst : Option TypeDesc) (x : Value)
 | index (t : Option TypeDesc) (x i : Value)
 | addr (sz : Option Nat) (x i : Value)
 | slice (sz : Option Nat) (x : Value) (lo hi mx : Option Value)
 | load (k : Option (Option Nat)) (a : Value)
 | store (sz : Option Nat) (a v : Value)
 | make (e : Option (TypeId × Nat × Nat × Value)) (l c : Value)
 | call (f : Nat) (args : List Value)
 | app (e : Option (TypeId × Nat × Nat × Value)) (same : Bool) (args : List Value)
 | blt (b : Builtin) (ts : List TypeId) (args : List Value)
 | build (t : TypeId) (parts : List (Nat × Value))
 | buildS (e : Option (TypeId × Nat × Nat × Value)) (n : Nat) (parts : List (Nat × Value))
 | field (t : TypeId) (x : Value) (f : Nat)
 | fieldA (t : TypeId) (x : Value) (f : Nat)
def viewOp (P : Program) (env : Operand → Value) : Op → Stop
 | .binOp op t x y _ => match env x with
  | .int k a => .bin op (.int k a) (env y)
  | .string a => .bin op (.string a) (env y)
  | z => .binT op (P.underlying t) z (env y)
 | .unOp op _ x => .un op (env x)
 | .convert s d x => .conv (P.underlying s) (P.underlying d) (env x)
 | .index t x i => .index (P.underlying t) (env x) (env i)
 | .indexAddr t x i => .addr (elemSz P t) (env x) (env i)
 | .slice t x lo hi mx => .slice (elemSz P t) (env x) (lo.map env) (hi.map env) (mx.map env)
 | .load t a => .load (ldKind P t) (env a)
 | .store t a v => .store (szB P t) (env a) (env v)
 | .makeSlice t l c => .make (elInfo P t) (env l) (env c)
 | .build t ps => .build t (ps.toList.map fun (i, x) => (i, env x))
 | .buildSlice t n ps => .buildS (elInfo P t) n (ps.toList.map fun (i, x) => (i, env x))
 | .field t x f => .field t (env x) f
 | .fieldAddr t x f => .fieldA t (env x) f
 | .call c => match c.callee with
  | .value f => match env f with
   | .func (.func n) first cap => .call n (first.toList ++ c.args.toList.map env ++ cap.toList)
   | _ => .other
  | .builtin b => match b with
   | .append => match c.argTypes.toList with
    | [t, t'] => .app (elInfo P t) (Nat.beq t t') (c.args.toList.map env)
    | _ => .other
   | b => .blt b c.argTypes.toList (c.args.toList.map env)
  | _ => .other
 | _ => .other
def stopV (P : Program) (st : List KI × S) : Stop :=
 match st.1 with
 | .reg _ ops _ (i :: _) :: _ => match ops[i]? with
  | some o => match dstOK st.2 o && (allV st.2 o.op && notSel o.op) with
   | true => match gv st.2 ops o with
    | some true => viewOp P (envOf st.2) o.op
    | _ => .other
   | false => .other
  | none => .other
 | _ => .other
def resOne (P : Program) (s : S) : ResultVar → Option Value
 | .tmp t => match s.tm t with | .v x => some x | _ => none
 | .cell a t => match s.tm a with
  | .p k off => match s.hp k with
   | some b => match ldv P t b.cells off with | some (.v y) => some y | _ => none
   | none => none
  | _ => none
def resAll (P : Program) (s : S) : List ResultVar → Option (List Value)
 | [] => some []
 | r :: l => match resOne P s r with
  | some x => match resAll P s l with | some xs => some (x :: xs) | none => none
  | none => none
def tupleOf : List Value → Value
 | [x] => x
 | l => .tuple l.toArray
def retV (P : Program) (fn : Func) (st : List KI × S) : Option Value :=
 match st.1 with
 | .code .ret :: _ | [] => match resAll P st.2 fn.results.toList with | some l => some (tupleOf l) | none => none
 | _ => none
section rules
variable {P : Program} [Mixed P] {fn : Func} {Post : Spec} {st : List KI × S} {u m : PH}
theorem G.stp (h : G P fn Post (adv P st) u m) : G P fn Post st u m := ⟨run_sound Mixed.mx 3000 st h.out⟩
theorem ctl_sound : ∀ (n : Nat) (st : List KI × S), Sym P fn Post (ctl P n st).1 (ctl P n st).2 u m → Sym P fn Post st.1 st.2 u m
 | 0, st, h => h
 | n + 1, st, h => by
  unfold ctl at h
  cases hn : noReg st.1 with
  | true => simp [hn] at h; exact h
  | false =>
   simp only [hn, cond_false] at h
   split at h
   ·rename_i st' he
    obtain ⟨ks', s'⟩ := st'
    exact one_sound Mixed.mx he (ctl_sound n _ h)
   ·exact h
theorem stopV_spec {V : Stop} (h : stopV P st = V) (hV : V ≠ .other) : ∃ id ops dr i l k s o, st = (.reg id ops dr (i :: l) :: k, s) ∧ ops[i]? = some o ∧ gv s ops o = some true ∧ dstOK s o = true ∧ allV s o.op = true ∧ notSel o.op = true ∧ viewOp P (envOf s) o.op = V ∧
  ∀ v, nx st v = (.reg id ops dr l :: k, s.put o.dst (.v v)) := by
 obtain ⟨ks, s⟩ := st
 unfold stopV at h
 simp only at h
 split at h
 ·rename_i id ops dr i l k
  split at h
  ·rename_i o ho
   split at h
   ·rename_i hb
    simp only [Bool.and_eq_true] at hb
    split at h
    ·rename_i hg
     exact ⟨id, ops, dr, i, l, k, s, o, rfl, ho, hg, hb.1, hb.2.1, hb.2.2, h, fun v => by simp [nx, ho]⟩
    ·exact absurd h.symm hV
   ·exact absurd h.symm hV
  ·exact absurd h.symm hV
 ·exact absurd h.symm hV
theorem view_al {env : Operand → Value} {o : Op} {V : Stop} (h : viewOp P env o = V) (hV : V ≠ .other) : allocOp o = false := by
 cases o <;> first | rfl | (simp only [viewOp] at h; exact absurd h.symm hV)
theorem G.ask {V : Stop} {v : Value} (h : stopV P (adv P st) = V) (hV : V ≠ .other) (hr : ∀ env (o : Oper), viewOp P env o.op = V → ∀ w, (loadOp o.op = true → Part u w ∧ Part m w) → (execOp env o).run P w = .ok (.value v) w)
  (k : G P fn Post (nx (adv P st) v) u m) : G P fn Post st u m := by
 refine G.stp ?_
 obtain ⟨id, ops, dr, i, l, kk, s, o, e, ho, hg, hd, hv, hs, hview, hnx⟩ := stopV_spec h hV
 have k := k.out
 rw [hnx] at k
 rw [e]
 exact ⟨Ob.ask ho hg hd hv hs (view_al hview hV) (fun w hp => hr _ o hview w hp) k⟩
theorem G.big {V : Stop} {K : Value → PH → PH → Prop} (h : stopV P (adv P st) = V) (hV : V ≠ .other) (hf : ∀ env op, viewOp P env op = V → freeOp op = false) (hk : (∀ v u' m', K v u' m' → PH.le m m') ∨ (∀ env op, viewOp P env op = V → mutOp op = true))
  (hr : ∀ env (o : Oper), viewOp P env o.op = V → ∀ w, Good u m w → OpDoes P env o w fun v w' => ∃ u' m', Good u' m' w' ∧ Grown u m w u' m' w' ∧ K v u' m')
  (k : ∀ v u' m', PH.le u u' → K v u' m' → G P fn Post (nx (adv P st) v) u' m') : G P fn Post st u m := by
 refine G.stp ?_
 obtain ⟨id, ops, dr, i, l, kk, s, o, e, ho, hg, hd, hv, hs, hview, hnx⟩ := stopV_spec h hV
 rw [e]
 refine ⟨?_⟩
 refine Ob.big (K := K) ho hg hd hv hs (hf _ _ hview) (fun v u' m' hK => ?_) (fun w hgd => hr _ o hview w hgd) (fun v u' m' h1 h2 => ?_)
 ·rcases hk with hk | hk
  ·exact .inl (hk v u' m' hK)
  ·exact .inr (.inr (.inl (lateB_mut (hk _ _ hview))))
 ·have := (k v u' m' h1 h2).out
  rw [hnx] at this
  exact this
theorem view_bin {env : Operand → Value} {o : Op} {op : BinOp} {x y : Value} (h : viewOp P env o = .bin op x y) : ∃ t X Y yt, o = .binOp op t X Y yt ∧ env X = x ∧ env Y = y := by
 cases o <;> simp only [viewOp] at h <;> try cases h
 ·split at h
  ·rename_i hx; simp at h; obtain ⟨rfl, rfl, rfl⟩ := h; exact ⟨_, _, _, _, rfl, hx, rfl⟩
  ·rename_i hx; simp at h; obtain ⟨rfl, rfl, rfl⟩ := h; exact ⟨_, _, _, _, rfl, hx, rfl⟩
  ·cases h
 ·(repeat' split at h) <;> cases h
theorem view_binT {env : Operand → Value} {o : Op} {op : BinOp} {d : Option TypeDesc} {x y : Value} (h : viewOp P env o = .binT op d x y) : ∃ t X Y yt, o = .binOp op t X Y yt ∧ env X = x ∧ env Y = y ∧ P.underlying t = d := by
 cases o <;> simp only [viewOp] at h <;> try cases h
 ·split at h
  ·cases h
  ·cases h
  ·simp at h; obtain ⟨rfl, rfl, rfl, rfl⟩ := h; exact ⟨_, _, _, _, rfl, rfl, rfl, rfl⟩
 ·(repeat' split at h) <;> cases h
theorem view_call {env : Operand → Value} {o : Op} {f : Nat} {args : List Value} (h : viewOp P env o = .call f args) : ∃ c F first cap, o = .call c ∧ c.callee = .value F ∧ env F = .func (.func f) first cap ∧ args = first.toList ++ c.args.toList.map env ++ cap.toList := by
 cases o <;> simp only [viewOp] at h <;> try cases h
 ·split at h <;> cases h
 split at h
 ·rename_i c F hc
  split at h
  ·rename_i n first cap he
   simp only [Stop.call.injEq] at h
   obtain ⟨rfl, rfl⟩ := h
   exact ⟨_, F, first, cap, rfl, hc, he, rfl⟩
  ·cases h
 ·(repeat' split at h) <;> cases h
 ·cases h
theorem G.bin {op : BinOp} {x y : Value} (v : Value) (h : stopV P (adv P st) = .bin op x y) (hg : ∀ t X Y w, (eqGuard op t X Y x y).run P w = .ok () w) (hr : ∀ t w, (binOp op t x y).run P w = .ok v w)
  (k : G P fn Post (nx (adv P st) v) u m) : G P fn Post st u m := by
 refine G.ask h (by simp) (fun env o hview w _ => ?_) k
 obtain ⟨t, X, Y, yt, e, rfl, rfl⟩ := view_bin hview
 obtain ⟨dst, opp, type, pos, after, guard⟩ := o
 simp only at e; subst e
 simp [execOp, hg, hr]
theorem guard_int {op : BinOp} {k : IntKind} {x y : Int} (t : TypeId) (X Y : Operand) (w : World) : (eqGuard op t X Y (.int k x) (.int k y)).run P w = .ok () w := by
 unfold eqGuard; split <;> simp
theorem i64_wrap {z : Int} (h1 : -9223372036854775808 ≤ z) (h2 : z ≤ 9223372036854775807) : IntKind.i64.wrap z = z := by
 simp only [IntKind.wrap, IntKind.signed, IntKind.bits]; simp; omega
theorem G.add (x y z : Int) (h : stopV P (adv P st) = .bin .add (.int .i64 x) (.int .i64 y)) (hz : x + y = z) (h1 : -9223372036854775808 ≤ z) (h2 : z ≤ 9223372036854775807)
  (k : G P fn Post (nx (adv P st) (.int .i64 z)) u m) : G P fn Post st u m :=
 G.bin _ h guard_int (fun t w => by simp [binOp, Op.intArith, hz, i64_wrap h1 h2]) k
theorem G.sub (x y z : Int) (h : stopV P (adv P st) = .bin .sub (.int .i64 x) (.int .i64 y)) (hz : x - y = z) (h1 : -9223372036854775808 ≤ z) (h2 : z ≤ 9223372036854775807)
  (k : G P fn Post (nx (adv P st) (.int .i64 z)) u m) : G P fn Post st u m :=
 G.bin _ h guard_int (fun t w => by simp [binOp, Op.intArith, hz, i64_wrap h1 h2]) k
theorem G.mul (x y z : Int) (h : stopV P (adv P st) = .bin .mul (.int .i64 x) (.int .i64 y)) (hz : x * y = z) (h1 : -9223372036854775808 ≤ z) (h2 : z ≤ 9223372036854775807)
  (k : G P fn Post (nx (adv P st) (.int .i64 z)) u m) : G P fn Post st u m :=
 G.bin _ h guard_int (fun t w => by simp [binOp, Op.intArith, hz, i64_wrap h1 h2]) k
def cmpZ : BinOp → Int → Int → Bool
 | .eql, x, y => decide (x = y)
 | .neq, x, y => decide (x ≠ y)
 | .lss, x, y => decide (x < y)
 | .leq, x, y => decide (x ≤ y)
 | .gtr, x, y => decide (x > y)
 | .geq, x, y => decide (x ≥ y)
 | _, _, _ => false
def isCmp : BinOp → Bool
 | .eql | .neq | .lss | .leq | .gtr | .geq => true
 | _ => false
theorem G.cmpG (op : BinOp) (kk : IntKind) (x y : Int) (b : Bool) (h : stopV P (adv P st) = .bin op (.int kk x) (.int kk y)) (hop : isCmp op = true) (hb : cmpZ op x y = b)
  (k : G P fn Post (nx (adv P st) (.bool b)) u m) : G P fn Post st u m := by
 refine G.bin _ h guard_int (fun t w => ?_) k
 subst hb
 cases op <;> simp [isCmp] at hop <;> simp [binOp, Op.intCmp, cmpZ]
 ·rw [Bool.eq_iff_iff]; simp
 ·rw [Bool.eq_iff_iff]; simp
theorem G.eqlT (x y : Int) (h : stopV P (adv P st) = .bin .eql (.int .i64 x) (.int .i64 y)) (hb : x = y) (k : G P fn Post (nx (adv P st) (.bool true)) u m) : G P fn Post st u m :=
 G.cmpG .eql .i64 x y true h rfl (by simp only [cmpZ, decide_eq_true_eq]; exact hb) k
theorem G.eqlF (x y : Int) (h : stopV P (adv P st) = .bin .eql (.int .i64 x) (.int .i64 y)) (hb : ¬ (x = y)) (k : G P fn Post (nx (adv P st) (.bool false)) u m) : G P fn Post st u m :=
 G.cmpG .eql .i64 x y false h rfl (by simp only [cmpZ, decide_eq_false_iff_not]; exact hb) k
theorem G.neqT (x y : Int) (h : stopV P (adv P st) = .bin .neq (.int .i64 x) (.int .i64 y)) (hb : x ≠ y) (k : G P fn Post (nx (adv P st) (.bool true)) u m) : G P fn Post st u m :=
 G.cmpG .neq .i64 x y true h rfl (by simp only [cmpZ, decide_eq_true_eq]; exact hb) k
theorem G.neqF (x y : Int) (h : stopV P (adv P st) = .bin .neq (.int .i64 x) (.int .i64 y)) (hb : ¬ (x ≠ y)) (k : G P fn Post (nx (adv P st) (.bool false)) u m) : G P fn Post st u m :=
 G.cmpG .neq .i64 x y false h rfl (by simp only [cmpZ, decide_eq_false_iff_not]; exact hb) k
theorem G.lssT (x y : Int) (h : stopV P (adv P st) = .bin .lss (.int .i64 x) (.int .i64 y)) (hb : x < y) (k : G P fn Post (nx (adv P st) (.bool true)) u m) : G P fn Post st u m :=
 G.cmpG .lss .i64 x y true h rfl (by simp only [cmpZ, decide_eq_true_eq]; exact hb) k
theorem G.lssF (x y : Int) (h : stopV P (adv P st) = .bin .lss (.int .i64 x) (.int .i64 y)) (hb : ¬ (x < y)) (k : G P fn Post (nx (adv P st) (.bool false)) u m) : G P fn Post st u m :=
 G.cmpG .lss .i64 x y false h rfl (by simp only [cmpZ, decide_eq_false_iff_not]; exact hb) k
theorem G.leqT (x y : Int) (h : stopV P (adv P st) = .bin .leq (.int .i64 x) (.int .i64 y)) (hb : x ≤ y) (k : G P fn Post (nx (adv P st) (.bool true)) u m) : G P fn Post st u m :=
 G.cmpG .leq .i64 x y true h rfl (by simp only [cmpZ, decide_eq_true_eq]; exact hb) k
theorem G.leqF (x y : Int) (h : stopV P (adv P st) = .bin .leq (.int .i64 x) (.int .i64 y)) (hb : ¬ (x ≤ y)) (k : G P fn Post (nx (adv P st) (.bool false)) u m) : G P fn Post st u m :=
 G.cmpG .leq .i64 x y false h rfl (by simp only [cmpZ, decide_eq_false_iff_not]; exact hb) k
theorem G.gtrT (x y : Int) (h : stopV P (adv P st) = .bin .gtr (.int .i64 x) (.int .i64 y)) (hb : x > y) (k : G P fn Post (nx (adv P st) (.bool true)) u m) : G P fn Post st u m :=
 G.cmpG .gtr .i64 x y true h rfl (by simp only [cmpZ, decide_eq_true_eq]; exact hb) k
theorem G.gtrF (x y : Int) (h : stopV P (adv P st) = .bin .gtr (.int .i64 x) (.int .i64 y)) (hb : ¬ (x > y)) (k : G P fn Post (nx (adv P st) (.bool false)) u m) : G P fn Post st u m :=
 G.cmpG .gtr .i64 x y false h rfl (by simp only [cmpZ, decide_eq_false_iff_not]; exact hb) k
theorem G.geqT (x y : Int) (h : stopV P (adv P st) = .bin .geq (.int .i64 x) (.int .i64 y)) (hb : x ≥ y) (k : G P fn Post (nx (adv P st) (.bool true)) u m) : G P fn Post st u m :=
 G.cmpG .geq .i64 x y true h rfl (by simp only [cmpZ, decide_eq_true_eq]; exact hb) k
theorem G.geqF (x y : Int) (h : stopV P (adv P st) = .bin .geq (.int .i64 x) (.int .i64 y)) (hb : ¬ (x ≥ y)) (k : G P fn Post (nx (adv P st) (.bool false)) u m) : G P fn Post st u m :=
 G.cmpG .geq .i64 x y false h rfl (by simp only [cmpZ, decide_eq_false_iff_not]; exact hb) k
def Fn0 (P : Program) (f : FuncId) (args : List Value) (u : PH) (R : Value → PH → Prop) : Prop := Contract P f args u PH.mt (fun v u' m' => m' = PH.mt ∧ R v u')
theorem Part.mt (w : World) : Part PH.mt w := fun _ _ h => by cases h
theorem Good.noM {w : World} (h : Good u m w) : Good u PH.mt w := ⟨h.pu, Part.mt w, fun _ => .inr rfl, h.cl⟩
theorem Good.frame {u' : PH} {w w' : World} (h : Good u m w) (g : Good u' PH.mt w') (gr : Grown u PH.mt w u' PH.mt w') : Good u' m w' ∧ Grown u m w u' m w' := by
 refine ⟨⟨g.pu, fun b o hb => ?_, fun b => ?_, g.cl⟩, ⟨gr.sz, fun b hb _ => gr.old b hb rfl, gr.us, fun b _ hb => hb, gr.io, gr.dr⟩⟩
 ·rw [gr.old b (h.pm.lt hb) rfl]; exact h.pm b o hb
 ·cases hb : m b with
  | none => exact .inr rfl
  | some o =>
   rw [gr.us b (h.pm.lt hb)]
   rcases h.ap b with e | e
   ·exact .inl e
   ·rw [hb] at e; cases e
theorem does_call {env : Operand → Value} {o : Oper} {f : Nat} {args : List Value} (hview : viewOp P env o.op = .call f args) (hc : ∀ args w, (callFunc f args).run P w = .ok (.enter f args) w) (w : World) (K : Value → World → Prop)
  (h : Calls P f args.toArray w fun e w' => ∃ v, e = .returned v ∧ K v w') : OpDoes P env o w K := by
 obtain ⟨c, F, first, cap, e, hcal, hF, rfl⟩ := view_call hview
 obtain ⟨dst, opp, type, pos, after, guard⟩ := o
 simp only at e; subst e
 have : (execOp env ⟨dst, .call c, type, pos, after, guard⟩).run P w = .ok (.enter f ((first ++ c.args.map env) ++ cap)) w := by
  simp [execOp, resolve, hcal, hF, Deferred.ofValue, invoke, hc]
 unfold OpDoes
 rw [this]
 simp only
 have ea : (first.toList ++ c.args.toList.map env ++ cap.toList).toArray = (first ++ c.args.map env) ++ cap := by
  apply Array.ext'; simp
 rw [← ea]; exact h
theorem view_call_free {f : Nat} {args : List Value} (env : Operand → Value) (op : Op) (h : viewOp P env op = .call f args) : freeOp op = false := by
 obtain ⟨c, F, first, cap, rfl, hcal, _⟩ := view_call h
 obtain ⟨cal, a, t⟩ := c
 simp only at hcal; subst hcal
 rfl
theorem G.call0 (f : Nat) (args : List Value) {R : Value → PH → Prop} (h : stopV P (adv P st) = .call f args) (hc : ∀ args w, (callFunc f args).run P w = .ok (.enter f args) w) (c : Fn0 P f args u R)
  (k : ∀ v u', PH.le u u' → R v u' → G P fn Post (nx (adv P st) v) u' m) : G P fn Post st u m := by
 refine G.big (K := fun v u' m' => m' = m ∧ R v u') h (by simp) view_call_free (.inl fun v u' m' hK => by rw [hK.1]; exact PH.le_refl _) (fun env o hview w hgd => ?_) (fun v u' m' h1 h2 => ?_)
 ·refine does_call hview hc w _ (Calls.mono (c w hgd.noM) fun e w' he => ?_)
  obtain ⟨v, u', m', e1, e2, e3, rfl, e4⟩ := he
  obtain ⟨g1, g2⟩ := hgd.frame e2 e3
  exact ⟨v, e1, u', m, g1, g2, rfl, e4⟩
 ·obtain ⟨rfl, h2⟩ := h2
  exact k v u' h1 h2
def S.init (n : Nat) (args : List Value) : S := { n := n, tm := fun d => match args[d]? with | some x => .v x | none => .junk, hp := fun _ => none }
def bodyOf (fn : Func) : Code := match fn.body with | some c => c | none => .skip
def st0 (fn : Func) (args : List Value) : List KI × S := ([.code (bodyOf fn)], S.init fn.ntmps args)
theorem Contract.of {PostV : Value → PH → PH → Prop} {f : FuncId} {args : List Value} (hf : P.funcs[f]? = some fn) (hb : fn.body.isSome = true) (hn : Nat.ble args.length fn.ntmps = true) (h : G P fn ⟨PostV, m⟩ (st0 fn args) u m) : Contract P f args u m PostV := by
 intro w hgd
 have hn := Nat.le_of_ble_eq_true hn
 have hb' : fn.body = some (bodyOf fn) := by unfold bodyOf; cases hc : fn.body with | none => simp [hc] at hb | some c => rfl
 refine callsIn_wide.1 (callsIn_of_wp_marks (n := 1) hf hb' trivial (wpIn_wide.2 ?_) rfl)
 have hr : Rel ⟨w, u, m⟩ (S.init fn.ntmps args) u m (fun _ => 0) { tmps := args.toArray ++ Array.replicate (fn.ntmps - args.toArray.size) undef, defers := [] } w := by
  refine ⟨?_, fun d hd => ?_, DfOK.nil _ _ _ _, fun k b hb => ?_, fun k j hk => absurd rfl hk, ⟨fun d k off hd => ?_, fun j b k off hj => ?_⟩, hgd, Grown.refl _ _ _⟩
  ·simp [S.init]; omega
  ·simp only [S.init] at hd ⊢
   split at hd
   ·rename_i x hx
    have hlt : d < args.length := by rcases List.getElem?_eq_some_iff.1 hx with ⟨h, _⟩; exact h
    simp only [hx, SV.den]
    rw [Array.getElem?_append_left (by simpa using hlt)]
    simpa using hx
   ·exact absurd rfl hd
  ·cases hb
  ·simp only [S.init] at hd; split at hd <;> cases hd
  ·cases hj
 exact h.out _ _ _ _ rfl hr
theorem Fn0.of {R : Value → PH → Prop} {f : FuncId} {args : List Value} (hf : P.funcs[f]? = some fn) (hb : fn.body.isSome = true) (hn : Nat.ble args.length fn.ntmps = true) (h : G P fn ⟨fun v u' m' => m' = PH.mt ∧ R v u', PH.mt⟩ (st0 fn args) u PH.mt) : Fn0 P f args u R :=
 Contract.of hf hb hn h
def resSem (t : Array Value) : ResultVar → Sem Value
 | .tmp d => pure (t.getD d undef)
 | .cell p ty => do loadVar ty (← asAddr (t.getD p undef))
theorem run_resOne {c : Cx} {s : S} {ρ : Nat → Nat} {a : Act} {w : World} (hr : Rel c s u m ρ a w) {r : ResultVar} {x : Value} (h : resOne P s r = some x) : (resSem a.tmps r).run P w = .ok x w := by
 cases r with
 | tmp t =>
  simp only [resOne] at h
  split at h
  ·rename_i y hy
   simp at h; subst h
   have := hr.tm t (by rw [hy]; simp)
   rw [hy] at this
   simp [resSem, this, SV.den]
  ·cases h
 | cell p t =>
  simp only [resOne] at h
  split at h
  ·rename_i k off hp
   split at h
   ·rename_i b hb
    split at h
    ·rename_i y hy
     simp at h; subst h
     have := hr.tm p (by rw [hp]; simp)
     rw [hp] at this
     obtain ⟨h1, _, _⟩ := run_ldv (P := P) (w := w) (hr.box k b hb).1 hy
     simp [resSem, this, SV.den, asAddr]
     exact h1
    ·cases h
   ·cases h
  ·cases h
theorem run_results {c : Cx} {s : S} {ρ : Nat → Nat} {a : Act} {w : World} (hr : Rel c s u m ρ a w) {l : List Value} (h : resAll P s fn.results.toList = some l) : (results fn a.tmps).run P w = .ok (tupleOf l) w := by
 have key : ∀ (rs : List ResultVar) (l : List Value), resAll P s rs = some l → (rs.mapM (resSem a.tmps)).run P w = .ok l w := by
  intro rs
  induction rs with
  | nil => intro l h; simp [resAll] at h; subst h; simp
  | cons r rs ih =>
   intro l h
   unfold resAll at h
   split at h
   ·rename_i x hx
    split at h
    ·rename_i xs hxs
     simp at h; subst h
     rw [List.mapM_cons]
     simp only [Sem.run_bind, run_resOne hr hx, Result.andThen_ok, ih xs hxs, Sem.run_pure]
    ·cases h
   ·cases h
 have e : results fn a.tmps = (do let vs ← fn.results.mapM (resSem a.tmps); pure (if h : vs.size = 1 then vs[0] else .tuple vs)) := by
  unfold results; rfl
 rw [e, ← Array.toArray_toList (xs := fn.results), List.mapM_toArray]
 simp only [Sem.run_bind, Sem.run_map, key _ l h, Result.andThen_ok, Sem.run_pure]
 congr 1
 match l with
 | [] => rfl
 | [x] => rfl
 | x :: y :: l => rfl
theorem G.ret (v : Value) (h : retV P fn (adv P st) = some v) (hp : Post.post v u m) : G P fn Post st u m := by
 refine G.stp ?_
 generalize adv P st = st' at h
 obtain ⟨ks, s⟩ := st'
 unfold retV at h
 simp only at h
 split at h
 ·rename_i k
  split at h
  ·rename_i l hl
   simp at h; subst h
   refine ⟨?_⟩
   intro c ρ a w hm0 hr
   exact wp_ret (cont_ret (hr.ends fun w' hr' => ⟨run_results (a := ⟨a.tmps, []⟩) hr' hl, _, _, _, rfl, hr'.gd, hr'.gr, hp⟩).1 _)
  ·cases h
 ·split at h
  ·rename_i l hl
   simp at h; subst h
   refine ⟨?_⟩
   intro c ρ a w hm0 hr
   exact (hr.ends fun w' hr' => ⟨run_results (a := ⟨a.tmps, []⟩) hr' hl, _, _, _, rfl, hr'.gd, hr'.gr, hp⟩).2
  ·cases h
 ·cases h
end rules
end Go.Proofs.YtpdboaedoimahaaGreatDoor
end
section
set_option linter.unusedSectionVars false
set_option linter.unusedSimpArgs false
namespace Go.Proofs.YtpdboaedoimahaaGreatDoor
variable [Flag]
def lookT (d : Nat) : List (Nat × SV) → SV
 | [] => .junk
 | (e, x) :: l => cond (Nat.beq d e) x (lookT d l)
def lookB (d : Nat) : List (Nat × Blk) → Option Blk
 | [] => none
 | (e, x) :: l => cond (Nat.beq d e) (some x) (lookB d l)
def S.of (n : Nat) (T : List (Nat × SV)) (B : List (Nat × Blk)) : S := { n := n, tm := fun d => lookT d T, hp := fun k => lookB k B }
def svLive (B : List (Nat × Blk)) : SV → Bool
 | .p k _ => B.any fun q => Nat.beq q.1 k
 | _ => true
def liveB (T : List (Nat × SV)) (B : List (Nat × Blk)) : Bool := T.all (fun p => svLive B p.2) && B.all (fun q => q.2.cells.all (svLive B))
structure Cov (N : Nat) (s : S) (T : List (Nat × SV)) (B : List (Nat × Blk)) : Prop where
 n : s.n = N
 t : T.map (fun p => s.tm p.1) = T.map (·.2)
 b : B.map (fun p => s.hp p.1) = B.map (fun p => some p.2)
theorem lookT_mem {d : Nat} {x : SV} : ∀ {T : List (Nat × SV)}, lookT d T = x → x ≠ .junk → (d, x) ∈ T
 | [], h, hx => absurd h.symm hx
 | (e, y) :: l, h, hx => by
  unfold lookT at h
  cases hb : Nat.beq d e with
  | true => simp [hb] at h; have := Nat.eq_of_beq_eq_true hb; subst this; subst h; simp
  | false => simp [hb] at h; exact List.mem_cons_of_mem _ (lookT_mem h hx)
theorem lookB_mem {d : Nat} {x : Blk} : ∀ {B : List (Nat × Blk)}, lookB d B = some x → (d, x) ∈ B
 | [], h => by cases h
 | (e, y) :: l, h => by
  unfold lookB at h
  cases hb : Nat.beq d e with
  | true => simp [hb] at h; have := Nat.eq_of_beq_eq_true hb; subst this; subst h; simp
  | false => simp [hb] at h; exact List.mem_cons_of_mem _ (lookB_mem h)
theorem lookB_of_any {k : Nat} : ∀ {B : List (Nat × Blk)}, B.any (fun q => Nat.beq q.1 k) = true → lookB k B ≠ none
 | [], h => by simp at h
 | (e, y) :: l, h => by
  unfold lookB
  cases hb : Nat.beq k e with
  | true => simp
  | false =>
   simp only [cond_false]
   refine lookB_of_any ?_
   simp only [List.any_cons, Bool.or_eq_true] at h
   rcases h with h | h
   ·have := Nat.eq_of_beq_eq_true h; subst this; simp at hb
   ·exact h
theorem live_of {n : Nat} {T : List (Nat × SV)} {B : List (Nat × Blk)} (h : liveB T B = true) : Live (S.of n T B) := by
 unfold liveB at h
 simp only [Bool.and_eq_true, List.all_eq_true] at h
 refine ⟨fun d k off hd => ?_, fun j b k off hj hm => ?_⟩
 ·have := h.1 _ (lookT_mem hd (by simp))
  exact lookB_of_any this
 ·have := h.2 _ (lookB_mem hj) _ hm
  exact lookB_of_any this
theorem Rel.cov {c : Cx} {s : S} {u m : PH} {ρ : Nat → Nat} {a : Act} {w : World} (h : Rel c s u m ρ a w) {T : List (Nat × SV)} {B : List (Nat × Blk)} {N : Nat} (hc : Cov N s T B) (hl : liveB T B = true) : Rel c (S.of N T B) u m ρ a w := by
 have ht : ∀ d x, (d, x) ∈ T → s.tm d = x := by
  intro d x hm
  have := hc.t
  rw [List.map_inj_left] at this
  exact this _ hm
 have hb : ∀ d x, (d, x) ∈ B → s.hp d = some x := by
  intro d x hm
  have := hc.b
  rw [List.map_inj_left] at this
  exact this _ hm
 refine ⟨h.sz.trans hc.n, fun d hd => ?_, h.df, fun k b hk => h.box k b (hb k b (lookB_mem hk)), fun k j hk hj => ?_, live_of hl, h.gd, h.gr⟩
 ·have := ht d _ (lookT_mem rfl hd)
  have h2 := h.tm d (by rw [this]; exact hd)
  rw [this] at h2; exact h2
 ·have h1 : ∀ k, (S.of N T B).hp k ≠ none → s.hp k ≠ none := by
   intro k hk
   cases hq : lookB k B with
   | none => exact absurd hq hk
   | some b => rw [hb k b (lookB_mem hq)]; simp
  exact h.inj k j (h1 k hk) (h1 j hj)
def loopAt (st : List KI × S) : Bool := match st.1 with | .code (.loop _) :: _ => true | _ => false
def loopIn (st : List KI × S) (J : S → PH → PH → Prop) (T : List (Nat × SV)) (B : List (Nat × Blk)) : List KI × S := match st.1 with
 | .code (.loop c) :: k => (.code c :: .lp J :: k, S.of st.2.n T B)
 | _ => st
def lpOf : List KI → Option (S → PH → PH → Prop)
 | .lp J :: _ => some J
 | _ => none
section rules
variable {P : Program} [Mixed P] {fn : Func} {Post : Spec} {st : List KI × S} {u m : PH}
theorem G.back {J : S → PH → PH → Prop} (h : lpOf (adv P st).1 = some J) (hj : J (adv P st).2 u m) : G P fn Post st u m := by
 refine G.stp ?_
 generalize adv P st = st' at h hj
 obtain ⟨ks, s⟩ := st'
 match ks, h with
 | .lp J' :: k, h =>
  simp only [lpOf, Option.some.injEq] at h
  subst h
  exact ⟨fun c ρ a w hm0 hr => ⟨s, u, m, ρ, hr, hj⟩⟩
theorem G.loop {ι : Type} (T : ι → List (Nat × SV)) (B : ι → List (Nat × Blk)) (Inv : ι → PH → PH → Prop) (μ : ι → Nat) (i0 : ι) (h : loopAt (adv P st) = true) (hl : ∀ i, liveB (T i) (B i) = true) (h0 : Cov (adv P st).2.n (adv P st).2 (T i0) (B i0)) (hI : Inv i0 u m)
  (hR : ∀ (J : S → PH → PH → Prop) (i : ι), (∀ i' s' u' m', Cov (adv P st).2.n s' (T i') (B i') → PH.le u u' → Inv i' u' m' → μ i' < μ i → J s' u' m') → ∀ u' m', PH.le u u' → Inv i u' m' → G P fn Post (loopIn (adv P st) J (T i) (B i)) u' m') : G P fn Post st u m := by
 refine G.stp ?_
 generalize adv P st = st' at h h0 hR
 obtain ⟨ks, s⟩ := st'
 match ks, h with
 | .code (.loop x) :: k, _ =>
  refine ⟨?_⟩
  intro c ρ a w hm0 hr
  show (Code.loop x).wp P (cont P fn Post c k) a w
  refine wp_loop_ghost (fun n a w => ∃ i u' m' ρ', Rel c (S.of s.n (T i) (B i)) u' m' ρ' a w ∧ PH.le u u' ∧ Inv i u' m' ∧ μ i = n) (μ i0) ⟨i0, u, m, ρ, hr.cov h0 (hl i0), PH.le_refl _, hI, rfl⟩ ?_
  rintro n a w ⟨i, u', m', ρ', h1, h2, h3, rfl⟩
  have := (hR (fun s' u' m' => ∃ i', Cov s.n s' (T i') (B i') ∧ PH.le u u' ∧ Inv i' u' m' ∧ μ i' < μ i) i (fun i' s' u' m' k1 k2 k3 k4 => ⟨i', k1, k2, k3, k4⟩) u' m' h2 h3).out c ρ' a w hm0 h1
  refine wp_mono this fun e a w hq => ?_
  cases e with
  | normal =>
   obtain ⟨s', u1, m1, ρ1, r1, i', k1, k2, k3, k4⟩ := hq
   exact ⟨_, k4, i', u1, m1, ρ1, r1.cov k1 (hl i'), k2, k3, rfl⟩
  | _ => exact hq
end rules
end Go.Proofs.YtpdboaedoimahaaGreatDoor
end
section
namespace Go.Proofs.YtpdboaedoimahaaGreatDoor
def val : List Nat → Nat
 | [] => 0
 | d :: l => d + 1000000000 * val l
def Low (l : List Nat) : Prop := ∀ d, d ∈ l → d < 1000000000
def limbs (n : Nat) : List Nat := if h : n = 0 then [] else n % 1000000000 :: limbs (n / 1000000000)
termination_by n
decreasing_by omega
def nl (n : Nat) : Nat := (limbs n).length
theorem limbs_zero : limbs 0 = [] := by unfold limbs; simp
theorem limbs_pos {n : Nat} (h : n ≠ 0) : limbs n = n % 1000000000 :: limbs (n / 1000000000) := by
 rw [limbs]; simp [h]
theorem val_limbs (n : Nat) : val (limbs n) = n := by
 induction n using Nat.strongRecOn with
 | _ n ih =>
  by_cases h : n = 0
  ·subst h; simp [limbs_zero, val]
  ·rw [limbs_pos h]; simp only [val]; rw [ih _ (by omega)]; omega
theorem low_limbs (n : Nat) : Low (limbs n) := by
 induction n using Nat.strongRecOn with
 | _ n ih =>
  by_cases h : n = 0
  ·subst h; simp [limbs_zero, Low]
  ·rw [limbs_pos h]
   intro d hd
   rcases List.mem_cons.1 hd with rfl | hd
   ·omega
   ·exact ih _ (by omega) d hd
theorem limbs_eq_nil {n : Nat} : limbs n = [] ↔ n = 0 := by
 constructor
 ·intro h; have := val_limbs n; rw [h] at this; simp [val] at this; omega
 ·rintro rfl; exact limbs_zero
theorem val_append (l m : List Nat) : val (l ++ m) = val l + 1000000000 ^ l.length * val m := by
 induction l with
 | nil => simp [val]
 | cons d l ih =>
  simp only [List.cons_append, val, ih, List.length_cons, Nat.pow_succ]
  rw [Nat.mul_add, ← Nat.mul_assoc, Nat.mul_comm 1000000000 (1000000000 ^ l.length), Nat.add_assoc]
theorem val_snoc (l : List Nat) (d : Nat) : val (l ++ [d]) = val l + 1000000000 ^ l.length * d := by
 rw [val_append]; simp [val]
theorem Low.nil : Low [] := by simp [Low]
theorem Low.cons {d : Nat} {l : List Nat} (h : d < 1000000000) (hl : Low l) : Low (d :: l) := by
 intro x hx; rcases List.mem_cons.1 hx with rfl | hx
 ·exact h
 ·exact hl x hx
theorem Low.append {l m : List Nat} (h : Low l) (k : Low m) : Low (l ++ m) := by
 intro x hx; rcases List.mem_append.1 hx with hx | hx
 ·exact h x hx
 ·exact k x hx
theorem Low.take {l : List Nat} (h : Low l) (k : Nat) : Low (l.take k) := fun x hx => h x (List.mem_of_mem_take hx)
theorem Low.drop {l : List Nat} (h : Low l) (k : Nat) : Low (l.drop k) := fun x hx => h x (List.mem_of_mem_drop hx)
theorem Low.zeros (k : Nat) : Low (List.replicate k 0) := by intro x hx; have := List.eq_of_mem_replicate hx; omega
theorem Low.getD {l : List Nat} (h : Low l) (k : Nat) : l.getD k 0 < 1000000000 := by
 by_cases hk : k < l.length
 ·rw [List.getD_eq_getElem?_getD, List.getElem?_eq_getElem hk]; exact h _ (List.getElem_mem hk)
 ·rw [List.getD_eq_getElem?_getD, List.getElem?_eq_none (by omega)]; simp
theorem val_lt {l : List Nat} (h : Low l) : val l < 1000000000 ^ l.length := by
 induction l with
 | nil => simp [val]
 | cons d l ih =>
  have h1 := h d (by simp)
  have h2 := ih (fun x hx => h x (by simp [hx]))
  simp only [val, List.length_cons, Nat.pow_succ]
  have : val l + 1 ≤ 1000000000 ^ l.length := h2
  have := Nat.mul_le_mul_left 1000000000 this
  rw [Nat.mul_comm (1000000000 ^ l.length)]
  omega
theorem val_zeros (k : Nat) : val (List.replicate k 0) = 0 := by
 induction k with
 | zero => rfl
 | succ k ih => simp [List.replicate_succ, val, ih]
theorem val_take_succ (l : List Nat) (k : Nat) : val (l.take (k + 1)) = val (l.take k) + 1000000000 ^ k * l.getD k 0 := by
 by_cases hk : k < l.length
 ·rw [List.take_succ_eq_append_getElem hk, val_snoc, List.length_take, Nat.min_eq_left (by omega)]
  simp [hk]
 ·rw [List.take_of_length_le (by omega), List.take_of_length_le (by omega)]
  have : l[k]? = none := List.getElem?_eq_none (by omega)
  simp [this]
def trimTo (l : List Nat) : Nat → Nat
 | 0 => 0
 | n + 1 => if l.getD n 0 = 0 then trimTo l n else n + 1
theorem trimTo_le (l : List Nat) (n : Nat) : trimTo l n ≤ n := by
 induction n with
 | zero => simp [trimTo]
 | succ n ih => simp only [trimTo]; split <;> omega
theorem getLast_limbs {n : Nat} (h : n ≠ 0) : (limbs n).getD ((limbs n).length - 1) 0 ≠ 0 := by
 induction n using Nat.strongRecOn with
 | _ n ih =>
  rw [limbs_pos h]
  by_cases hd : n / 1000000000 = 0
  ·rw [hd, limbs_zero]; simp; omega
  ·have h1 := ih _ (by omega) hd
   have h2 : (limbs (n / 1000000000)).length ≠ 0 := by
    intro e; exact hd (limbs_eq_nil.1 (List.eq_nil_of_length_eq_zero e))
   simp only [List.length_cons, Nat.add_sub_cancel]
   obtain ⟨m, hm⟩ : ∃ m, (limbs (n / 1000000000)).length = m + 1 := ⟨_, (Nat.succ_pred_eq_of_ne_zero h2).symm⟩
   rw [hm] at h1 ⊢
   simpa using h1
theorem limbs_val {l : List Nat} (h : Low l) (hz : l ≠ [] → l.getD (l.length - 1) 0 ≠ 0) : limbs (val l) = l := by
 induction l with
 | nil => simp [val, limbs_zero]
 | cons d l ih =>
  have h1 := h d (by simp)
  have hl : Low l := fun x hx => h x (by simp [hx])
  have hz' : l ≠ [] → l.getD (l.length - 1) 0 ≠ 0 := by
   intro hne
   have := hz (by simp)
   obtain ⟨m, hm⟩ : ∃ m, l.length = m + 1 := ⟨l.length - 1, by have := List.length_pos_iff.2 hne; omega⟩
   simp only [List.length_cons, Nat.add_sub_cancel, hm] at this ⊢
   simpa using this
  have hne : val (d :: l) ≠ 0 := by
   by_cases hnil : l = []
   ·subst hnil
    have := hz (by simp)
    simp at this
    simp [val]; omega
   ·intro e
    have e1 := ih hl hz'
    simp only [val] at e
    have : val l = 0 := by omega
    rw [this, limbs_zero] at e1
    exact hnil e1.symm
  rw [limbs_pos hne]
  simp only [val]
  rw [show (d + 1000000000 * val l) % 1000000000 = d by omega, show (d + 1000000000 * val l) / 1000000000 = val l by omega, ih hl hz']
theorem val_take_trimTo (l : List Nat) (n : Nat) : val (l.take (trimTo l n)) = val (l.take n) := by
 induction n with
 | zero => simp [trimTo]
 | succ n ih =>
  simp only [trimTo]
  split
  ·rename_i h; rw [ih, val_take_succ, h]; simp
  ·rfl
theorem trimTo_last (l : List Nat) (n : Nat) (h : trimTo l n ≠ 0) : l.getD (trimTo l n - 1) 0 ≠ 0 := by
 induction n with
 | zero => simp [trimTo] at h
 | succ n ih =>
  simp only [trimTo] at h ⊢
  split
  ·rename_i h0; rw [if_pos h0] at h; exact ih h
  ·rename_i h0; simpa using h0
theorem limbs_trim {l : List Nat} (h : Low l) : limbs (val l) = l.take (trimTo l l.length) := by
 have e : val l = val (l.take (trimTo l l.length)) := by rw [val_take_trimTo, List.take_length]
 rw [e]
 refine limbs_val (h.take _) (fun hne => ?_)
 have hle := trimTo_le l l.length
 have h0 : trimTo l l.length ≠ 0 := by intro e0; rw [e0] at hne; simp at hne
 have := trimTo_last l l.length h0
 rw [List.length_take, Nat.min_eq_left hle]
 rw [List.getD_eq_getElem?_getD, List.getElem?_take, if_pos (by omega), ← List.getD_eq_getElem?_getD]
 exact this
theorem nl_zero : nl 0 = 0 := by simp [nl, limbs_zero]
theorem lt_pow_nl (n : Nat) : n < 1000000000 ^ nl n := by
 have := val_lt (low_limbs n); rwa [val_limbs] at this
theorem nl_le_of_lt {n k : Nat} (h : n < 1000000000 ^ k) : nl n ≤ k := by
  induction k generalizing n with
  | zero => have : n = 0 := by simp at h; omega
            subst this; simp [nl_zero]
  | succ k ih =>
    by_cases h0 : n = 0
    · subst h0; simp [nl_zero]
    · have : n / 1000000000 < 1000000000 ^ k := by
        rw [Nat.div_lt_iff_lt_mul (by omega)]; rwa [Nat.pow_succ] at h
      have := ih this
      simp only [nl] at this ⊢
      rw [limbs_pos h0]; simp; omega
theorem nl_mono {m n : Nat} (h : m ≤ n) : nl m ≤ nl n := nl_le_of_lt (Nat.lt_of_le_of_lt h (lt_pow_nl n))
theorem pow_le_of_nl {n : Nat} (h : n ≠ 0) : 1000000000 ^ (nl n - 1) ≤ n := by
 rcases Nat.lt_or_ge n (1000000000 ^ (nl n - 1)) with h1 | h1
 ·have := nl_le_of_lt h1
  have h2 : nl n ≠ 0 := by
   intro e; exact h (limbs_eq_nil.1 (List.eq_nil_of_length_eq_zero e))
  omega
 ·exact h1
theorem nl_add (m n : Nat) : nl (m + n) ≤ max (nl m) (nl n) + 1 := by
 refine nl_le_of_lt ?_
 have h1 := lt_pow_nl m
 have h2 := lt_pow_nl n
 have h3 : 1000000000 ^ nl m ≤ 1000000000 ^ max (nl m) (nl n) := Nat.pow_le_pow_right (by omega) (by omega)
 have h4 : 1000000000 ^ nl n ≤ 1000000000 ^ max (nl m) (nl n) := Nat.pow_le_pow_right (by omega) (by omega)
 rw [Nat.pow_succ]
 omega
theorem nl_mul (m n : Nat) : nl (m * n) ≤ nl m + nl n := by
 refine nl_le_of_lt ?_
 rw [Nat.pow_add]
 exact Nat.mul_lt_mul'' (lt_pow_nl m) (lt_pow_nl n)
end Go.Proofs.YtpdboaedoimahaaGreatDoor
end
section
namespace Go.Proofs.YtpdboaedoimahaaGreatDoor
open Go.RowKit
def Ext (w w' : World) : Prop := Below w.heap.size w w'
theorem Ext.refl (w : World) : Ext w w := Below.refl _ _
theorem Ext.trans {a b c : World} (h : Ext a b) (k : Ext b c) : Ext a c := Below.trans h (Below.mono k h.size)
theorem Ext.alloc {a w : World} (h : Ext a w) (o : Obj) : Ext a (w.alloc o) := Below.alloc h h.size o
theorem Ext.drew {a w : World} (h : Ext a w) : Ext a w.drew := Below.drew h
theorem Ext.cell {w w' : World} (h : Ext w w') {p : Addr} {v : Value} (hp : w.cell? p = some v) : w'.cell? p = some v := by
 rw [Below.cell h (block_lt_of_cell hp)]; exact hp
theorem Ext.size {w w' : World} (h : Ext w w') : w.heap.size ≤ w'.heap.size := Below.size h
theorem Ext.setCell {a w : World} (h : Ext a w) {p : Addr} (hp : a.heap.size ≤ p.block) (u : Value) : Ext a (w.setCell p u) := Below.setCell h hp u
theorem Ext.grown {a w w' : World} {row : Option Nat} (h : Ext a w) (hg : w.grownBy w' row) (hr : ∀ k, row = some k → a.heap.size ≤ k) : Ext a w' :=
 Below.grown h hg h.size hr
def Row (w : World) (a : Option Addr) (cs : List Value) : Prop :=
 ∀ j, j < cs.length → ∃ b off, a = some ⟨b, off, none⟩ ∧ w.cell? ⟨b, off + j, none⟩ = some (cs.getD j (.bool false))
theorem Row.ext {w w' : World} {a : Option Addr} {cs : List Value} (h : Row w a cs) (x : Ext w w') : Row w' a cs := by
 intro j hj
 obtain ⟨b, off, h1, h2⟩ := h j hj
 exact ⟨b, off, h1, x.cell h2⟩
theorem Row.nil (w : World) (a : Option Addr) : Row w a [] := fun j hj => absurd hj (by simp)
theorem Row.take {w : World} {a : Option Addr} {cs : List Value} (h : Row w a cs) (k : Nat) : Row w a (cs.take k) := by
 intro j hj
 rw [List.length_take] at hj
 obtain ⟨b, off, h1, h2⟩ := h j (by omega)
 refine ⟨b, off, h1, ?_⟩
 rw [h2, List.getD_eq_getElem?_getD, List.getD_eq_getElem?_getD, List.getElem?_take, if_pos (by omega)]
theorem Row.of_owns {w : World} {base : Nat} {e : TypeId} {size : Nat} {g n cap : Nat} {xs : List Value}
  (h : w.ownsRow base e size (.slice (some ⟨g, 0, none⟩) n cap) n xs) : Row w (some ⟨g, 0, none⟩) xs := by
 intro j hj
 refine ⟨g, 0, rfl, ?_⟩
 rw [h.1] at hj
 have := h.cellAt j hj
 rw [Nat.zero_add, this, List.getD_eq_getElem?_getD]
 have hj' : j < xs.length := by rw [h.1]; exact hj
 rw [List.getElem?_eq_getElem hj']; rfl
def u64s (l : List Nat) : List Value := l.map fun (n : Nat) => Value.int .u64 (n : Int)
@[simp] theorem length_u64s (l : List Nat) : (u64s l).length = l.length := by simp [u64s]
theorem Row.at {w : World} {a : Option Addr} {l : List Nat} (h : Row w a (u64s l)) {j : Nat} (hj : j < l.length) :
  ∃ b off, a = some ⟨b, off, none⟩ ∧ w.cell? ⟨b, off + j, none⟩ = some (.int .u64 (l.getD j 0 : Nat)) := by
 obtain ⟨b, off, h1, h2⟩ := h j (by simpa [u64s] using hj)
 exact ⟨b, off, h1, by rw [h2]; simp [u64s, hj]⟩
theorem u64s_set (l : List Nat) (j n : Nat) : (u64s l).set j (.int .u64 (n : Int)) = u64s (l.set j n) := by simp [u64s, List.map_set]
theorem u64s_take (l : List Nat) (k : Nat) : (u64s l).take k = u64s (l.take k) := by simp [u64s, List.map_take]
theorem u64s_zeros (n : Nat) : List.replicate n (Value.int .u64 0) = u64s (List.replicate n 0) := by simp [u64s]
def LimbsV (w : World) (v : Value) (l : List Nat) : Prop := ∃ a cap, v = .slice a l.length cap ∧ l.length ≤ cap ∧ Row w a (u64s l)
def NatV (w : World) (v : Value) (n : Nat) : Prop := LimbsV w v (limbs n)
theorem LimbsV.ext {w w' : World} {v : Value} {l : List Nat} (h : LimbsV w v l) (x : Ext w w') : LimbsV w' v l := by
 obtain ⟨a, cap, h1, h2, h3⟩ := h; exact ⟨a, cap, h1, h2, h3.ext x⟩
theorem NatV.ext {w w' : World} {v : Value} {n : Nat} (h : NatV w v n) (x : Ext w w') : NatV w' v n := LimbsV.ext h x
theorem NatV.zero (w : World) (a : Option Addr) (cap : Nat) : NatV w (.slice a 0 cap) 0 := by
 refine ⟨a, cap, by rw [limbs_zero]; rfl, by rw [limbs_zero]; simp, ?_⟩
 rw [limbs_zero]; simp [u64s]; exact Row.nil _ _
end Go.Proofs.YtpdboaedoimahaaGreatDoor
end
section
namespace Go.Proofs.YtpdboaedoimahaaGreatDoor
open Go.RowKit
theorem ret_slice {a : Option Addr} {m n c : Nat} (h : m = n) : Ending.returned (.slice a m c) = .returned (.slice a n c) := by rw [h]
theorem ret_int {k : IntKind} {a b : Int} (h : a = b) : Ending.returned (.int k a) = .returned (.int k b) := by rw [h]
set_option maxHeartbeats 400000 in
theorem trim_any (a : Option Addr) (cap : Nat) (l : List Nat) (w : World) (hlen : l.length ≤ 9223372036854775807) (hcap : l.length ≤ cap)
  (hc : Row w a (u64s l)) :
  Calls Tryz.prog 181 #[.slice a l.length cap] w fun e w' => e = .returned (.slice a (trimTo l l.length) cap) ∧ w = w' := by
 have HC := Lib.hid hc
 clear hc
 go_enter Tryz.func181, Tryz.ntmps181
 go_wp2
 go_loop [3] (fun n => ∃ k : Nat, k ≤ l.length ∧ n = .int .i64 k ∧ trimTo l l.length = trimTo l k) (fun n => (intOf n).toNat)
 case atStart => exact ⟨l.length, by omega, rfl, rfl⟩
 case round =>
  obtain ⟨k, hk, rfl, ht⟩ := hrel
  have HT := Lib.hid ht
  clear ht
  rcases k with _ | k
  ·go_wp2
   go_ret
   exact ⟨ret_slice (by rw [HT.out]; rfl), rfl⟩
  ·obtain ⟨b, off, rfl, h1⟩ := HC.out.at (j := k) (by omega)
   obtain ⟨x, hx⟩ : ∃ x, x = l.getD k 0 := ⟨_, rfl⟩
   rw [← hx] at h1
   have HX := Lib.hid hx
   clear hx
   by_cases h0 : x = 0
   ·subst h0
    go_wp2
    go_round
    case rel => exact ⟨k, by omega, rfl, by rw [HT.out]; simp only [trimTo, ← HX.out, if_true]⟩
    case measure => simp [intOf]
   ·have h2 : ((x : Int) == 0) = false := by simp; omega
    go_wp2
    go_ret
    exact ⟨ret_slice (by rw [HT.out]; simp only [trimTo, ← HX.out, if_neg h0]), rfl⟩
set_option maxHeartbeats 400000 in
theorem at_any (a : Option Addr) (cap : Nat) (l : List Nat) (i : Int) (w : World) (hlen : l.length ≤ 9223372036854775807) (hi : 0 ≤ i)
  (hc : Row w a (u64s l)) :
  Calls Tryz.prog 217 #[.slice a l.length cap, .int .i64 i] w fun e w' => e = .returned (.int .u64 (l.getD i.toNat 0 : Nat)) ∧ w = w' := by
 obtain ⟨k, rfl⟩ := Int.eq_ofNat_of_zero_le hi
 rw [Int.toNat_natCast]
 have HC := Lib.hid hc
 clear hc
 by_cases hk : k < l.length
 ·obtain ⟨b, off, rfl, h1⟩ := HC.out.at (j := k) hk
  obtain ⟨x, hx⟩ : ∃ x, x = l.getD k 0 := ⟨_, rfl⟩
  rw [← hx] at h1 ⊢
  clear HC hx
  go_enter Tryz.func217, Tryz.ntmps217
  go_wp2
  go_ret
  exact ⟨rfl, rfl⟩
 ·have h1 : l.getD k 0 = 0 := by
   have : l[k]? = none := List.getElem?_eq_none (by omega)
   simp [this]
  rw [h1]
  clear HC h1
  go_enter Tryz.func217, Tryz.ntmps217
  go_wp2
  go_ret
  exact ⟨rfl, rfl⟩
def sgn (n : Int) : Int := if n < 0 then -1 else if 0 < n then 1 else 0
set_option maxHeartbeats 400000 in
theorem sign_any (n : Int) (w : World) :
  Calls Tryz.prog 218 #[.int .i64 n] w fun e w' => e = .returned (.int .i64 (sgn n)) ∧ w = w' := by
 rcases Int.lt_trichotomy n 0 with h | h | h
 ·have h1 : sgn n = -1 := by simp [sgn, h]
  rw [h1]; clear h1
  go_enter Tryz.func218, Tryz.ntmps218
  go_wp2
  go_ret
  exact ⟨rfl, rfl⟩
 ·subst h
  go_enter Tryz.func218, Tryz.ntmps218
  go_wp2
  go_ret
  exact ⟨rfl, rfl⟩
 ·have h1 : sgn n = 1 := by simp [sgn, h]; omega
  rw [h1]; clear h1
  have h2 : ¬ n < 0 := by omega
  go_enter Tryz.func218, Tryz.ntmps218
  go_wp2
  go_ret
  exact ⟨rfl, rfl⟩
theorem trim_len (a : Option Addr) (cap n : Nat) (l : List Nat) (w : World) (hn : l.length = n) (hlen : n ≤ 9223372036854775807) (hcap : n ≤ cap)
  (hc : Row w a (u64s l)) :
  Calls Tryz.prog 181 #[.slice a n cap] w fun e w' => e = .returned (.slice a (trimTo l l.length) cap) ∧ w = w' := by
 subst hn; exact trim_any a cap l w hlen hcap hc
end Go.Proofs.YtpdboaedoimahaaGreatDoor
end
section
namespace Go.Proofs.YtpdboaedoimahaaGreatDoor
theorem carry_split (p t : Nat) : p * (t % 1000000000) + p * 1000000000 * (t / 1000000000) = p * t := by
 rw [Nat.mul_assoc, ← Nat.mul_add, Nat.mod_add_div]
structure AddSt (a b : List Nat) (k : Nat) (ys : List Nat) (c : Nat) : Prop where
 len : ys.length = k
 low : Low ys
 carry : c ≤ 1
 sum : val ys + 1000000000 ^ k * c = val (a.take k) + val (b.take k)
theorem AddSt.start (a b : List Nat) : AddSt a b 0 [] 0 := ⟨rfl, Low.nil, by omega, by simp [val]⟩
theorem AddSt.step {a b ys : List Nat} {k c x y : Nat} (h : AddSt a b k ys c) (ha : Low a) (hb : Low b) (hx : x = a.getD k 0) (hy : y = b.getD k 0) :
  AddSt a b (k + 1) (ys ++ [(x + y + c) % 1000000000]) ((x + y + c) / 1000000000) := by
 have h1 := ha.getD k
 have h2 := hb.getD k
 have h3 := h.carry
 rw [← hx] at h1
 rw [← hy] at h2
 refine ⟨by simp [h.len], h.low.append (Low.cons (by omega) Low.nil), by omega, ?_⟩
 rw [val_snoc, val_take_succ, val_take_succ, h.len, ← hx, ← hy, Nat.pow_succ, Nat.add_assoc, carry_split]
 have := h.sum
 rw [Nat.mul_add, Nat.mul_add]
 omega
theorem AddSt.done {a b ys : List Nat} {c : Nat} (h : AddSt a b (max a.length b.length + 1) ys c) (ha : Low a) (hb : Low b) : val ys = val a + val b := by
 have hs := h.sum
 rw [List.take_of_length_le (by omega), List.take_of_length_le (by omega)] at hs
 have h1 := val_lt ha
 have h2 := val_lt hb
 have h3 : 1000000000 ^ a.length ≤ 1000000000 ^ max a.length b.length := Nat.pow_le_pow_right (by omega) (by omega)
 have h4 : 1000000000 ^ b.length ≤ 1000000000 ^ max a.length b.length := Nat.pow_le_pow_right (by omega) (by omega)
 rw [Nat.pow_succ] at hs
 have h5 := Nat.lt_of_lt_of_le h1 h3
 have h6 := Nat.lt_of_lt_of_le h2 h4
 have hc := h.carry
 clear h1 h2 h3 h4 h
 generalize 1000000000 ^ max a.length b.length = p at *
 rcases Nat.eq_zero_or_pos c with h0 | h0
 ·subst h0; rw [Nat.mul_zero, Nat.add_zero] at hs; exact hs
 ·have h1 : c = 1 := Nat.le_antisymm hc h0
  subst h1
  rw [Nat.mul_one] at hs
  omega
structure SubSt (a b : List Nat) (k : Nat) (ys : List Nat) (c : Nat) : Prop where
 len : ys.length = k
 low : Low ys
 carry : c ≤ 1
 sum : val ys + val (b.take k) = val (a.take k) + 1000000000 ^ k * c
theorem SubSt.start (a b : List Nat) : SubSt a b 0 [] 0 := ⟨rfl, Low.nil, by omega, by simp [val]⟩
theorem SubSt.step {a b ys : List Nat} {k c x y : Nat} (h : SubSt a b k ys c) (ha : Low a) (hb : Low b) (hx : x = a.getD k 0) (hy : y = b.getD k 0) :
  SubSt a b (k + 1) (ys ++ [(x + 1000000000 - y - c) % 1000000000]) (1 - (x + 1000000000 - y - c) / 1000000000) := by
 have h1 := ha.getD k
 have h2 := hb.getD k
 have h3 := h.carry
 rw [← hx] at h1
 rw [← hy] at h2
 refine ⟨by simp [h.len], h.low.append (Low.cons (by omega) Low.nil), by omega, ?_⟩
 rw [val_snoc, val_take_succ, val_take_succ, h.len, ← hx, ← hy, Nat.pow_succ]
 have hs := h.sum
 generalize 1000000000 ^ k = p at *
 obtain ⟨t, ht⟩ : ∃ t, t = x + 1000000000 - y - c := ⟨_, rfl⟩
 rw [← ht]
 have e1 : t % 1000000000 + y + c = x + 1000000000 * (1 - t / 1000000000) := by omega
 have e2 : p * (t % 1000000000) + p * y + p * c = p * x + p * 1000000000 * (1 - t / 1000000000) := by
  rw [Nat.mul_assoc, ← Nat.mul_add, ← Nat.mul_add, ← Nat.mul_add, e1]
 omega
theorem SubSt.done {a b ys : List Nat} {c : Nat} (h : SubSt a b a.length ys c) (hb : b.length ≤ a.length) (hle : val b ≤ val a) : val ys = val a - val b := by
 have hs := h.sum
 rw [List.take_of_length_le (Nat.le_refl _), List.take_of_length_le hb] at hs
 have h1 := val_lt h.low
 rw [h.len] at h1
 rcases Nat.eq_zero_or_pos c with h0 | h0
 ·subst h0; simp at hs; omega
 ·have : 1000000000 ^ a.length * 1 ≤ 1000000000 ^ a.length * c := Nat.mul_le_mul_left _ h0
  omega
theorem val_split (l : List Nat) (k : Nat) (hk : k ≤ l.length) : val l = val (l.take k) + 1000000000 ^ k * val (l.drop k) := by
 have := val_append (l.take k) (l.drop k)
 rw [List.take_append_drop, List.length_take, Nat.min_eq_left hk] at this
 exact this
theorem drop_getD (l : List Nat) (k : Nat) (hk : k < l.length) : l.drop k = l.getD k 0 :: l.drop (k + 1) := by
 rw [List.drop_eq_getElem_cons hk]; simp [hk]
theorem val_lt_of_limb {a b : List Nat} {k : Nat} (hl : a.length = b.length) (hk : k < a.length) (ha : Low a) (hd : a.drop (k + 1) = b.drop (k + 1))
  (h : a.getD k 0 < b.getD k 0) : val a < val b := by
 rw [val_split a k (by omega), val_split b k (by omega), drop_getD a k hk, drop_getD b k (by omega), hd]
 simp only [val]
 have h1 := val_lt (ha.take k)
 rw [List.length_take, Nat.min_eq_left (by omega)] at h1
 generalize 1000000000 ^ k = p at *
 generalize val (List.drop (k + 1) b) = q
 have : p * (a.getD k 0 + 1 + 1000000000 * q) ≤ p * (b.getD k 0 + 1000000000 * q) := Nat.mul_le_mul_left _ (by omega)
 have e : p * (a.getD k 0 + 1 + 1000000000 * q) = p * (a.getD k 0 + 1000000000 * q) + p := by
  rw [show a.getD k 0 + 1 + 1000000000 * q = (a.getD k 0 + 1000000000 * q) + 1 by omega, Nat.mul_add, Nat.mul_one]
 omega
theorem lt_of_nl_lt {m n : Nat} (h : nl m < nl n) : m < n := by
 rcases Nat.lt_or_ge m n with h1 | h1
 ·exact h1
 ·have := nl_mono h1; omega
structure MulSt (a b : List Nat) (i k : Nat) (o : List Nat) (c : Nat) : Prop where
 len : o.length = a.length + b.length
 low : Low o
 carry : c < 1000000000
 sum : val o + 1000000000 ^ (i + k) * c = val (a.take i) * val b + 1000000000 ^ i * (a.getD i 0 * val (b.take k))
 high : ∀ j, i + b.length ≤ j → o.getD j 0 = 0
theorem val_set (l : List Nat) (j d : Nat) (hj : j < l.length) : val (l.set j d) + 1000000000 ^ j * l.getD j 0 = val l + 1000000000 ^ j * d := by
 induction l generalizing j with
 | nil => simp at hj
 | cons x l ih =>
  cases j with
  | zero => simp [val]; omega
  | succ j =>
   have := ih j (by simpa using hj)
   simp only [List.set_cons_succ, val, List.getD_cons_succ, Nat.pow_succ]
   have e1 : 1000000000 ^ j * 1000000000 * l.getD j 0 = 1000000000 * (1000000000 ^ j * l.getD j 0) := by rw [Nat.mul_comm (1000000000 ^ j), Nat.mul_assoc]
   have e2 : 1000000000 ^ j * 1000000000 * d = 1000000000 * (1000000000 ^ j * d) := by rw [Nat.mul_comm (1000000000 ^ j), Nat.mul_assoc]
   rw [e1, e2]
   omega
theorem Low.set {l : List Nat} (h : Low l) (j : Nat) {d : Nat} (hd : d < 1000000000) : Low (l.set j d) := by
 intro x hx
 rcases List.mem_or_eq_of_mem_set hx with hx | rfl
 ·exact h x hx
 ·exact hd
theorem getD_set_ne (l : List Nat) {i j : Nat} (d : Nat) (h : i ≠ j) : (l.set i d).getD j 0 = l.getD j 0 := by
 simp [List.getD_eq_getElem?_getD, h]
theorem MulSt.start (a b : List Nat) : MulSt a b 0 0 (List.replicate (a.length + b.length) 0) 0 := by
 refine ⟨by simp, Low.zeros _, by omega, by simp [val_zeros, val], fun j _ => ?_⟩
 rw [List.getD_eq_getElem?_getD, List.getElem?_replicate]; split <;> rfl
theorem MulSt.step {a b o : List Nat} {i k c x y z t : Nat} (h : MulSt a b i k o c) (ha : Low a) (hb : Low b) (hk : k < b.length) (hi : i < a.length)
  (hx : x = a.getD i 0) (hy : y = b.getD k 0) (hz : z = o.getD (i + k) 0) (ht : t = z + x * y + c) :
  MulSt a b i (k + 1) (o.set (i + k) (t % 1000000000)) (t / 1000000000) := by
 have h1 := ha.getD i
 have h2 := hb.getD k
 have h3 := h.low.getD (i + k)
 have h4 := h.carry
 rw [← hx] at h1
 rw [← hy] at h2
 rw [← hz] at h3
 have hxy : x * y ≤ 999999999 * 999999999 := Nat.mul_le_mul (by omega) (by omega)
 refine ⟨by simp [h.len], h.low.set _ (Nat.mod_lt _ (by omega)), by omega, ?_, fun j hj => ?_⟩
 ·have hv := val_set o (i + k) (t % 1000000000) (by have := h.len; omega)
  rw [← hz] at hv
  have hs := h.sum
  rw [← hx] at hs
  have hr : val (a.take i) * val b + 1000000000 ^ i * (x * val (b.take (k + 1))) = val o + 1000000000 ^ (i + k) * c + 1000000000 ^ i * (x * (1000000000 ^ k * y)) := by
   rw [hs, val_take_succ, ← hy, Nat.mul_add x, Nat.mul_add (1000000000 ^ i), Nat.add_assoc]
  rw [← hx, hr]
  rw [show i + (k + 1) = i + k + 1 by omega, Nat.pow_succ]
  have hc := carry_split (1000000000 ^ (i + k)) t
  have e : 1000000000 ^ i * (x * (1000000000 ^ k * y)) = 1000000000 ^ (i + k) * (x * y) := by
   rw [Nat.pow_add, Nat.mul_assoc]; congr 1; rw [← Nat.mul_assoc, Nat.mul_comm x, Nat.mul_assoc]
  rw [e]
  generalize 1000000000 ^ (i + k) = p at *
  have e2 : p * t = p * z + p * (x * y) + p * c := by rw [ht, Nat.mul_add, Nat.mul_add]
  omega
 ·rw [getD_set_ne _ _ (by omega)]; exact h.high j hj
theorem MulSt.next {a b o : List Nat} {i c : Nat} (h : MulSt a b i b.length o c) (hi : i < a.length) :
  o.getD (i + b.length) 0 = 0 ∧ MulSt a b (i + 1) 0 (o.set (i + b.length) c) 0 := by
 have h0 := h.high (i + b.length) (Nat.le_refl _)
 refine ⟨h0, by simp [h.len], h.low.set _ h.carry, by omega, ?_, fun j hj => ?_⟩
 ·have hv := val_set o (i + b.length) c (by have := h.len; omega)
  rw [h0] at hv
  have hs := h.sum
  rw [List.take_of_length_le (Nat.le_refl _)] at hs
  rw [val_take_succ, Nat.add_mul]
  have e : 1000000000 ^ i * a.getD i 0 * val b = 1000000000 ^ i * (a.getD i 0 * val b) := Nat.mul_assoc _ _ _
  rw [e, ← hs]
  rw [Nat.mul_zero, Nat.add_zero] at hv
  rw [List.take_zero, val, Nat.mul_zero, Nat.mul_zero, Nat.mul_zero, Nat.add_zero, Nat.add_zero]
  exact hv
 ·rw [getD_set_ne _ _ (by omega)]; exact h.high j (by omega)
theorem MulSt.done {a b o : List Nat} (h : MulSt a b a.length 0 o 0) : val o = val a * val b := by
 have hs := h.sum
 rw [List.take_of_length_le (Nat.le_refl _)] at hs
 simpa [val] using hs
structure ShortSt (a : List Nat) (d k : Nat) (o : List Nat) (r : Nat) : Prop where
 len : o.length = a.length
 low : Low o
 rest : r < d
 sum : val (a.drop k) = d * val (o.drop k) + r
theorem ShortSt.start (a : List Nat) (d : Nat) (hd : 0 < d) : ShortSt a d a.length (List.replicate a.length 0) 0 :=
 ⟨by simp, Low.zeros _, hd, by simp [val]⟩
theorem ShortSt.step {a o : List Nat} {d k r x : Nat} (h : ShortSt a d (k + 1) o r) (ha : Low a) (hk : k < a.length) (hx : x = a.getD k 0) :
  ShortSt a d k (o.set k ((r * 1000000000 + x) / d)) ((r * 1000000000 + x) % d) := by
 have hd : 0 < d := Nat.lt_of_le_of_lt (Nat.zero_le _) h.rest
 have h1 := ha.getD k
 rw [← hx] at h1
 have hq : (r * 1000000000 + x) / d < 1000000000 := by
  rw [Nat.div_lt_iff_lt_mul hd]
  have : (r + 1) * 1000000000 ≤ d * 1000000000 := Nat.mul_le_mul_right _ h.rest
  rw [Nat.mul_comm 1000000000 d]
  omega
 refine ⟨by simp [h.len], h.low.set _ hq, Nat.mod_lt _ hd, ?_⟩
 have e1 := drop_getD a k hk
 have e2 := drop_getD (o.set k ((r * 1000000000 + x) / d)) k (by simp [h.len, hk])
 rw [e1, e2, List.drop_set_of_lt (by omega)]
 simp only [val, ← hx]
 have e3 : (o.set k ((r * 1000000000 + x) / d)).getD k 0 = (r * 1000000000 + x) / d := by
  simp [List.getD_eq_getElem?_getD, h.len, hk]
 rw [e3]
 have hs := h.sum
 have hdm := Nat.div_add_mod (r * 1000000000 + x) d
 generalize (r * 1000000000 + x) / d = q at *
 generalize (r * 1000000000 + x) % d = s at *
 rw [hs, Nat.mul_add, Nat.mul_add, show d * (1000000000 * val (List.drop (k + 1) o)) = 1000000000 * (d * val (List.drop (k + 1) o)) by rw [← Nat.mul_assoc, Nat.mul_comm d, Nat.mul_assoc]]
 omega
theorem ShortSt.done {a o : List Nat} {d r : Nat} (h : ShortSt a d 0 o r) : val o = val a / d ∧ r = val a % d := by
 have hs := h.sum
 simp only [List.drop_zero] at hs
 have hd : 0 < d := Nat.lt_of_le_of_lt (Nat.zero_le _) h.rest
 rw [hs]
 constructor
 ·rw [Nat.mul_add_div hd, Nat.div_eq_of_lt h.rest]; rfl
 ·rw [Nat.mul_add_mod, Nat.mod_eq_of_lt h.rest]
end Go.Proofs.YtpdboaedoimahaaGreatDoor
end
section
namespace Go.Proofs.YtpdboaedoimahaaGreatDoor
open Go.RowKit
def RetNat (w : World) (n : Nat) (e : Ending) (w' : World) : Prop := ∃ v, e = .returned v ∧ NatV w' v n ∧ Ext w w'
theorem Tryz.info215 : (Tryz.prog.info? 215).map (fun i => (i.zero, i.size, i.bytes)) = some (some (.int .u64 0), 1, 8) := by kernel_rfl
theorem made_u64 (n : Nat) : (madeCells (Value.int .u64 0).cells (n * 1)).toList = u64s (List.replicate n 0) := by
 rw [Nat.mul_one]; exact (toList_madeCells_one _ _).trans (u64s_zeros n)
theorem nat_of_trim {w : World} {a : Option Addr} {l : List Nat} {cap n : Nat} (hl : Low l) (hr : Row w a (u64s l)) (hn : val l = n) (hc : l.length ≤ cap) :
  NatV w (.slice a (trimTo l l.length) cap) n := by
 have h := limbs_trim hl
 rw [hn] at h
 have hle := trimTo_le l l.length
 have hlen : (limbs n).length = trimTo l l.length := by rw [h, List.length_take, Nat.min_eq_left hle]
 refine ⟨a, cap, by rw [hlen], by omega, ?_⟩
 rw [h, ← u64s_take]; exact hr.take _
def AddRel (w : World) (l m : List Nat) (n : Nat) (c i : Value) (wr : World) : Prop :=
 ∃ (k : Nat) (ys : List Nat) (cc : Nat), k ≤ n ∧ i = .int .i64 k ∧ c = .int .u64 (cc : Int) ∧ AddSt l m k ys cc ∧
  wr.ownsRow w.heap.size 215 1 (.slice (some ⟨w.heap.size, 0, none⟩) n n) n (u64s (ys ++ List.replicate (n - k) 0)) ∧ Ext w wr
theorem fill_next {w wr : World} {e : TypeId} {n k : Nat} {ys : List Nat} {d : Nat} (hk : k < n) (hl : ys.length = k)
  (h : wr.ownsRow w.heap.size e 1 (.slice (some ⟨w.heap.size, 0, none⟩) n n) n (u64s (ys ++ List.replicate (n - k) 0))) (x : Ext w wr) :
  (wr.setCell ⟨w.heap.size, k, none⟩ (.int .u64 (d : Int))).ownsRow w.heap.size e 1 (.slice (some ⟨w.heap.size, 0, none⟩) n n) n (u64s ((ys ++ [d]) ++ List.replicate (n - (k + 1)) 0)) ∧
   Ext w (wr.setCell ⟨w.heap.size, k, none⟩ (.int .u64 (d : Int))) := by
 obtain ⟨h1, h2⟩ := h.stored k (.int .u64 (d : Int))
 refine ⟨?_, x.setCell (Nat.le_refl _) _⟩
 rw [u64s_set] at h1
 have e : (ys ++ List.replicate (n - k) 0).set k d = (ys ++ [d]) ++ List.replicate (n - (k + 1)) 0 := by
  rw [List.set_append_right _ _ (by omega), hl, Nat.sub_self]
  obtain ⟨r, hr⟩ : ∃ r, n - k = r + 1 := ⟨n - k - 1, by omega⟩
  rw [hr, show n - (k + 1) = r by omega, List.replicate_succ, List.set_cons_zero, List.append_assoc]; rfl
 rw [e] at h1; exact h1
set_option maxRecDepth 100000 in
set_option maxHeartbeats 800000 in
theorem add_core (a b : Option Addr) (ca cb : Nat) (l m : List Nat) (w : World) (ha : Row w a (u64s l)) (hb : Row w b (u64s m)) (la : Low l) (lb : Low m)
  (sa : l.length ≤ 10000000000000) (sb : m.length ≤ 10000000000000) :
  Calls Tryz.prog 194 #[.slice a l.length ca, .slice b m.length cb] w (RetNat w (val l + val m)) := by
 obtain ⟨i0, hi, hz0, hz1, hz2⟩ := info_parts Tryz.info215
 have HI := Lib.hid hi
 have HZ0 := Lib.hid hz0
 have HZ1 := Lib.hid hz1
 have HZ2 := Lib.hid hz2
 clear hi hz0 hz1 hz2
 have HA := Lib.hid ha
 have HB := Lib.hid hb
 have LA := Lib.hid la
 have LB := Lib.hid lb
 clear ha hb la lb
 obtain ⟨n, hn⟩ : ∃ n, n = max l.length m.length + 1 := ⟨_, rfl⟩
 have HN := Lib.hid hn
 have hn1 : n ≤ 10000000000001 := by omega
 clear hn
 rcases Nat.lt_or_ge l.length m.length with hlm | hlm
 all_goals
  go_enter Tryz.func194, Tryz.ntmps194
  go_wp2_with (at_make; refine wpList_make_full _ rfl _ _ 105 rfl w.heap.size 215 i0 (.int .u64 0) 1 Tryz.underlying105 HI.out HZ0.out HZ1.out .i64 .i64 _ _ n rfl rfl (by have := HN.out; omega) (by have := HN.out; omega) (by rw [HZ2.out]; omega) (by unfold maxLen; omega) (Nat.le_refl _) ?_; intro w1 hown hgrow)
  rw [made_u64] at hown
  have HO := Lib.hid hown
  have X1 : Hid (Ext w w1) := (Ext.refl w).grown hgrow (fun k hk => by cases hk)
  clear hown hgrow
  go_loopw [6, 18] (AddRel w l m n) (fun _ i _ => n - (intOf i).toNat)
  case atStart => exact ⟨0, [], 0, Nat.zero_le _, rfl, rfl, AddSt.start _ _, by simpa using HO.out, X1.out⟩
  case round =>
   obtain ⟨k, ys, cc, hk, rfl, rfl, hst, hown, hx⟩ := hrel
   have HS := Lib.hid hst
   have HW := Lib.hid hown
   have HX := Lib.hid hx
   have hc1 := hst.carry
   clear hst hown hx HO X1
   by_cases hlt : k < n
   ·obtain ⟨x, hx⟩ : ∃ x, x = l.getD k 0 := ⟨_, rfl⟩
    obtain ⟨y, hy⟩ : ∃ y, y = m.getD k 0 := ⟨_, rfl⟩
    have hx1 : x < 1000000000 := by rw [hx]; exact LA.out.getD k
    have hy1 : y < 1000000000 := by rw [hy]; exact LB.out.getD k
    have XX := Lib.hid hx
    have YY := Lib.hid hy
    clear hx hy
    have hf := HW.out.frozenAt k
    have hce : ∃ u, wr.cell? ⟨w.heap.size, k, none⟩ = some u := by
     obtain ⟨b, off, h1, h2⟩ := Row.of_owns HW.out k (by simp [HS.out.len]; omega)
     simp only [Option.some.injEq, Addr.mk.injEq, and_true] at h1
     obtain ⟨rfl, rfl⟩ := h1
     rw [Nat.zero_add] at h2
     exact ⟨_, h2⟩
    obtain ⟨u, hce⟩ := hce
    go_wp2_with fail
    refine (at_any _ _ _ _ _ (by omega) (by omega) (HA.out.ext HX.out)).mono ?_
    rw [Int.toNat_natCast, ← XX.out]
    rintro e w' ⟨rfl, rfl⟩
    go_wp2_with fail
    refine (at_any _ _ _ _ _ (by omega) (by omega) (HB.out.ext HX.out)).mono ?_
    rw [Int.toNat_natCast, ← YY.out]
    rintro e w' ⟨rfl, rfl⟩
    go_wp2
    rw [show ((x : Int) + y + cc) % 1000000000 = (((x + y + cc) % 1000000000 : Nat) : Int) by omega, show ((x : Int) + y + cc) / 1000000000 = (((x + y + cc) / 1000000000 : Nat) : Int) by omega]
    have hs := HS.out.step LA.out LB.out XX.out YY.out
    have hfill := fill_next (d := (x + y + cc) % 1000000000) hlt HS.out.len HW.out HX.out
    exact ⟨⟨k + 1, _, _, by omega, by go_num, rfl, hs, hfill.1, hfill.2⟩, by simp only [intOf]; omega⟩
   ·obtain rfl : k = n := by omega
    have hlen := HS.out.len
    have hown := HW.out
    rw [Nat.sub_self, List.replicate_zero, List.append_nil] at hown
    have hrow := Lib.hid (Row.of_owns hown)
    have hnat := Lib.hid (nat_of_trim (cap := k) (n := val l + val m) HS.out.low hrow.out (by have h := HS.out; rw [HN.out] at h; exact h.done LA.out LB.out) (by omega))
    have HL := Lib.hid hlen
    clear hown hlen
    go_wp2_with fail
    ((with_reducible refine (trim_len _ _ _ ys _ HL.out (by omega) (by omega) hrow.out).mono ?_); rintro e w' ⟨rfl, rfl⟩)
    go_wp2
    go_ret
    exact ⟨_, rfl, hnat.out, HX.out⟩
theorem natAdd_any (va vb : Value) (m n : Nat) (w : World) (ha : NatV w va m) (hb : NatV w vb n) (sa : nl m ≤ 10000000000000) (sb : nl n ≤ 10000000000000) :
  Calls Tryz.prog 194 #[va, vb] w (RetNat w (m + n)) := by
 obtain ⟨a, ca, rfl, _, ra⟩ := ha
 obtain ⟨b, cb, rfl, _, rb⟩ := hb
 have := add_core a b ca cb (limbs m) (limbs n) w ra rb (low_limbs _) (low_limbs _) sa sb
 rw [val_limbs, val_limbs] at this
 exact this
end Go.Proofs.YtpdboaedoimahaaGreatDoor
end
section
namespace Go.Proofs.YtpdboaedoimahaaGreatDoor
open Go.RowKit
theorem Ext.drewN {a w : World} (h : Ext a w) (n : Nat) : Ext a (w.drewN n) := by
 obtain ⟨h1, h2, h3, h4, h5⟩ := h
 exact ⟨h1, h2, h3, h4, h5⟩
theorem Row.drewN {w : World} {a : Option Addr} {cs : List Value} (h : Row w a cs) (n : Nat) : Row (w.drewN n) a cs := h.ext ((Ext.refl w).drewN n)
theorem ownsRow_drewN {w : World} {base : Nat} {e : TypeId} {size : Nat} {v : Value} {n : Nat} {xs : List Value} (h : w.ownsRow base e size v n xs) (k : Nat) : (w.drewN k).ownsRow base e size v n xs := h
def SubRel (w : World) (l m : List Nat) (n : Nat) (c i : Value) (wr : World) : Prop :=
 ∃ (k : Nat) (ys : List Nat) (cc : Nat), k ≤ n ∧ i = .int .i64 k ∧ c = .int .u64 (cc : Int) ∧ SubSt l m k ys cc ∧
  wr.ownsRow w.heap.size 215 1 (.slice (some ⟨w.heap.size, 0, none⟩) n n) n (u64s (ys ++ List.replicate (n - k) 0)) ∧ Ext w wr
set_option maxRecDepth 100000 in
set_option maxHeartbeats 800000 in
theorem sub_core (a b : Option Addr) (ca cb : Nat) (l m : List Nat) (w : World) (ha : Row w a (u64s l)) (hb : Row w b (u64s m)) (la : Low l) (lb : Low m)
  (sa : l.length ≤ 10000000000000) (sb : m.length ≤ l.length) (hle : val m ≤ val l) :
  Calls Tryz.prog 196 #[.slice a l.length ca, .slice b m.length cb] w (RetNat w (val l - val m)) := by
 obtain ⟨i0, hi, hz0, hz1, hz2⟩ := info_parts Tryz.info215
 have HI := Lib.hid hi
 have HZ0 := Lib.hid hz0
 have HZ1 := Lib.hid hz1
 have HZ2 := Lib.hid hz2
 clear hi hz0 hz1 hz2
 have HA := Lib.hid ha
 have HB := Lib.hid hb
 have LA := Lib.hid la
 have LB := Lib.hid lb
 have LE := Lib.hid hle
 clear ha hb la lb hle
 obtain ⟨n, hn⟩ : ∃ n, n = l.length := ⟨_, rfl⟩
 have HN := Lib.hid hn
 have hn1 : n ≤ 10000000000001 := by omega
 clear hn
 go_enter Tryz.func196, Tryz.ntmps196
 go_wp2_with (at_make; refine wpList_make_full _ rfl _ _ 105 rfl w.heap.size 215 i0 (.int .u64 0) 1 Tryz.underlying105 HI.out HZ0.out HZ1.out .i64 .i64 _ _ n rfl rfl (by have := HN.out; omega) (by have := HN.out; omega) (by rw [HZ2.out]; omega) (by unfold maxLen; omega) (Nat.le_refl _) ?_; intro w1 hown hgrow)
 rw [made_u64] at hown
 have HO := Lib.hid hown
 have X1 : Hid (Ext w w1) := (Ext.refl w).grown hgrow (fun k hk => by cases hk)
 clear hown hgrow
 go_loopw [6, 14] (SubRel w l m n) (fun _ i _ => n - (intOf i).toNat)
 case atStart => exact ⟨0, [], 0, Nat.zero_le _, rfl, rfl, SubSt.start _ _, by simpa using HO.out, X1.out⟩
 case round =>
  obtain ⟨k, ys, cc, hk, rfl, rfl, hst, hown, hx⟩ := hrel
  have HS := Lib.hid hst
  have HW := Lib.hid hown
  have HX := Lib.hid hx
  have hc1 := hst.carry
  clear hst hown hx HO X1
  by_cases hlt : k < l.length
  ·have hkn : k < n := by rw [HN.out]; exact hlt
   obtain ⟨x, hx⟩ : ∃ x, x = l.getD k 0 := ⟨_, rfl⟩
   obtain ⟨y, hy⟩ : ∃ y, y = m.getD k 0 := ⟨_, rfl⟩
   have hx1 : x < 1000000000 := by rw [hx]; exact LA.out.getD k
   have hy1 : y < 1000000000 := by rw [hy]; exact LB.out.getD k
   obtain ⟨ba, offa, rfl, hca⟩ := (HA.out.ext HX.out).at hlt
   rw [← hx] at hca
   have hat : ∀ q, Calls Tryz.prog 217 #[.slice b m.length cb, .int .i64 k] (wr.drewN q) fun e w' => e = .returned (.int .u64 (y : Int)) ∧ w' = wr.drewN q := fun q => by
    have := at_any b cb m k (wr.drewN q) (by omega) (by omega) ((HB.out.ext HX.out).drewN q)
    rw [Int.toNat_natCast, ← hy] at this; exact this.mono fun _ _ h => ⟨h.1, h.2.symm⟩
   have HAT := Lib.hid hat
   have XX := Lib.hid hx
   have YY := Lib.hid hy
   clear hx hy hat
   have hf := HW.out.frozenAt k
   have hce : ∃ u, wr.cell? ⟨w.heap.size, k, none⟩ = some u := by
    obtain ⟨b, off, h1, h2⟩ := Row.of_owns HW.out k (by simp [HS.out.len]; omega)
    simp only [Option.some.injEq, Addr.mk.injEq, and_true] at h1
    obtain ⟨rfl, rfl⟩ := h1
    rw [Nat.zero_add] at h2
    exact ⟨_, h2⟩
   obtain ⟨u, hce⟩ := hce
   go_wp2_with fail
   go_quiet ((go_at_call 217; exact Calls.quiet_of_same (HAT.out _)))
   go_wp2
   rw [show ((x : Int) + 1000000000 - y - cc) % 1000000000 = (((x + 1000000000 - y - cc) % 1000000000 : Nat) : Int) by omega, show 1 - ((x : Int) + 1000000000 - y - cc) / 1000000000 = ((1 - (x + 1000000000 - y - cc) / 1000000000 : Nat) : Int) by omega]
   have hs := HS.out.step LA.out LB.out XX.out YY.out
   have hfill := fill_next (d := (x + 1000000000 - y - cc) % 1000000000) hkn HS.out.len (ownsRow_drewN HW.out nq) (HX.out.drewN nq)
   exact ⟨⟨k + 1, _, _, by omega, by go_num, rfl, hs, hfill.1, hfill.2⟩, by simp only [intOf]; omega⟩
  ·obtain rfl : k = n := by have := HN.out; omega
   have hlen := HS.out.len
   have hown := HW.out
   rw [Nat.sub_self, List.replicate_zero, List.append_nil] at hown
   have hrow := Lib.hid (Row.of_owns hown)
   have hnat := Lib.hid (nat_of_trim (cap := k) (n := val l - val m) HS.out.low hrow.out (by have h := HS.out; rw [HN.out] at h; exact h.done sb LE.out) (by omega))
   have HL := Lib.hid hlen
   clear hown hlen
   go_wp2_with fail
   ((with_reducible refine (trim_len _ _ _ ys _ HL.out (by omega) (by omega) hrow.out).mono ?_); rintro e w' ⟨rfl, rfl⟩)
   go_wp2
   go_ret
   exact ⟨_, rfl, hnat.out, HX.out⟩
theorem natSub_any (va vb : Value) (m n : Nat) (w : World) (ha : NatV w va m) (hb : NatV w vb n) (sa : nl m ≤ 10000000000000) (hle : n ≤ m) :
  Calls Tryz.prog 196 #[va, vb] w (RetNat w (m - n)) := by
 obtain ⟨a, ca, rfl, _, ra⟩ := ha
 obtain ⟨b, cb, rfl, _, rb⟩ := hb
 have := sub_core a b ca cb (limbs m) (limbs n) w ra rb (low_limbs _) (low_limbs _) sa (nl_mono hle) (by rw [val_limbs, val_limbs]; exact hle)
 rw [val_limbs, val_limbs] at this
 exact this
def CmpRel (w : World) (l m : List Nat) (i : Value) (wr : World) : Prop :=
 ∃ k : Nat, k ≤ l.length ∧ i = .int .i64 ((k : Int) - 1) ∧ l.drop k = m.drop k ∧ ∃ q, wr = w.drewN q
theorem sgn_pos {n : Int} (h : 0 < n) : sgn n = 1 := by unfold sgn; rw [if_neg (by omega), if_pos h]
theorem sgn_neg {n : Int} (h : n < 0) : sgn n = -1 := by unfold sgn; rw [if_pos h]
theorem sgn_zero : sgn 0 = 0 := by simp [sgn]
def RetDrew (w : World) (v : Value) (e : Ending) (w' : World) : Prop := e = .returned v ∧ ∃ q, w' = w.drewN q
set_option maxRecDepth 100000 in
set_option maxHeartbeats 800000 in
theorem compare_core (a b : Option Addr) (ca cb : Nat) (l m : List Nat) (w : World) (ha : Row w a (u64s l)) (hb : Row w b (u64s m)) (la : Low l) (lb : Low m)
  (sa : l.length ≤ 10000000000000) (sb : m.length = l.length) :
  Calls Tryz.prog 195 #[.slice a l.length ca, .slice b l.length cb] w (RetDrew w (.int .i64 (sgn ((val l : Int) - val m)))) := by
 have HA := Lib.hid ha
 have HB := Lib.hid hb
 have LA := Lib.hid la
 have LB := Lib.hid lb
 have SB := Lib.hid sb
 clear ha hb la lb sb
 go_enter Tryz.func195, Tryz.ntmps195
 go_wp2_with fail
 go_loopw [5] (CmpRel w l m) (fun i _ => (intOf i + 1).toNat)
 case atStart => exact ⟨l.length, by omega, rfl, by rw [List.drop_of_length_le (Nat.le_refl _), List.drop_of_length_le (by rw [SB.out]; exact Nat.le_refl _)], 0, rfl⟩
 case round =>
  obtain ⟨k, hk, rfl, hd, q, rfl⟩ := hrel
  have HD := Lib.hid hd
  clear hd
  rcases k with _ | k
  ·go_wp2_with fail
   have h0 : (val l : Int) - val m = 0 := by have := HD.out; simp only [List.drop_zero] at this; rw [this]; omega
   go_ret
   refine ⟨?_, q, rfl⟩
   rw [h0, sgn_zero]; rfl
  ·rw [show ((k + 1 : Nat) : Int) - 1 = k by omega]
   have hkl : k < l.length := by omega
   obtain ⟨ba, offa, rfl, hca⟩ := HA.out.at hkl
   obtain ⟨bb, offb, rfl, hcb⟩ := HB.out.at (j := k) (by rw [SB.out]; exact hkl)
   obtain ⟨x, hx⟩ : ∃ x, x = l.getD k 0 := ⟨_, rfl⟩
   obtain ⟨y, hy⟩ : ∃ y, y = m.getD k 0 := ⟨_, rfl⟩
   rw [← hx] at hca
   rw [← hy] at hcb
   have XX := Lib.hid hx
   have YY := Lib.hid hy
   clear hx hy
   rcases Nat.lt_trichotomy x y with hlt | heq | hgt
   ·go_wp2_with fail
    go_quiet (fail)
    go_wp2_with fail
    have h0 : (val l : Int) - val m < 0 := by
     have := val_lt_of_limb SB.out.symm hkl LA.out HD.out (by rw [← XX.out, ← YY.out]; exact hlt)
     omega
    go_ret
    refine ⟨?_, _, World.drewN_drewN _ _ _⟩
    rw [sgn_neg h0]; rfl
   ·subst heq
    go_wp2_with fail
    go_quiet (fail)
    go_wp2_with fail
    go_quiet (fail)
    go_wp2_with fail
    refine ⟨⟨k, by omega, by go_num, ?_, _, rfl⟩, by simp only [intOf]; omega⟩
    rw [drop_getD l k hkl, drop_getD m k (by rw [SB.out]; exact hkl), HD.out, ← XX.out, ← YY.out]
   ·have hnlt : ¬ x < y := by omega
    go_wp2_with fail
    go_quiet (fail)
    go_wp2_with fail
    go_quiet (fail)
    go_wp2_with fail
    have h0 : 0 < (val l : Int) - val m := by
     have := val_lt_of_limb SB.out (by rw [SB.out]; exact hkl) LB.out HD.out.symm (by rw [← XX.out, ← YY.out]; exact hgt)
     omega
    go_ret
    refine ⟨?_, _, by rw [World.drewN_drewN, World.drewN_drewN]⟩
    rw [sgn_pos h0]; rfl
set_option maxRecDepth 100000 in
set_option maxHeartbeats 800000 in
theorem compare_ne (a b : Option Addr) (ca cb m n : Nat) (w : World) (sa : m ≤ 10000000000000) (sb : n ≤ 10000000000000) (hne : m ≠ n) :
  Calls Tryz.prog 195 #[.slice a m ca, .slice b n cb] w (RetDrew w (.int .i64 (sgn ((m : Int) - n)))) := by
 have h1 : ((m : Int) != n) = true := by rw [bne_iff_ne]; omega
 clear hne
 go_enter Tryz.func195, Tryz.ntmps195
 go_wp2_with fail
 refine (sign_any _ _).mono ?_
 rintro e w' ⟨rfl, rfl⟩
 go_wp2_with fail
 go_ret
 exact ⟨rfl, 0, rfl⟩
theorem sgn_congr {a b c d : Nat} (h1 : a < b ↔ c < d) (h2 : b < a ↔ d < c) : sgn ((a : Int) - b) = sgn ((c : Int) - d) := by
 rcases Nat.lt_trichotomy a b with h | h | h
 ·have := h1.1 h
  rw [sgn_neg (by omega), sgn_neg (by omega)]
 ·have h3 : ¬ c < d := fun h' => by have := h1.2 h'; omega
  have h4 : ¬ d < c := fun h' => by have := h2.2 h'; omega
  rw [show (a : Int) - b = 0 by omega, show (c : Int) - d = 0 by omega]
 ·have := h2.1 h
  rw [sgn_pos (by omega), sgn_pos (by omega)]
theorem natCompare_any (va vb : Value) (m n : Nat) (w : World) (ha : NatV w va m) (hb : NatV w vb n) (sa : nl m ≤ 10000000000000) (sb : nl n ≤ 10000000000000) :
  Calls Tryz.prog 195 #[va, vb] w (RetDrew w (.int .i64 (sgn ((m : Int) - n)))) := by
 obtain ⟨a, ca, rfl, _, ra⟩ := ha
 obtain ⟨b, cb, rfl, _, rb⟩ := hb
 by_cases h : (limbs n).length = (limbs m).length
 ·have := compare_core a b ca cb (limbs m) (limbs n) w ra rb (low_limbs _) (low_limbs _) sa h
  rw [val_limbs, val_limbs] at this
  rw [h]; exact this
 ·have := compare_ne a b ca cb (limbs m).length (limbs n).length w sa sb (fun e => h e.symm)
  rw [sgn_congr (a := (limbs m).length) (b := (limbs n).length) (c := m) (d := n)] at this
  ·exact this
  ·constructor
   ·exact fun h' => lt_of_nl_lt h'
   ·intro h'; have := nl_mono (Nat.le_of_lt h'); unfold nl at this; omega
  ·constructor
   ·exact fun h' => lt_of_nl_lt h'
   ·intro h'; have := nl_mono (Nat.le_of_lt h'); unfold nl at this; omega
end Go.Proofs.YtpdboaedoimahaaGreatDoor
end
section
namespace Go.Proofs.YtpdboaedoimahaaGreatDoor
open Go.RowKit
def MulRel (w : World) (l m : List Nat) (n : Nat) (i : Value) (wr : World) : Prop :=
 ∃ (k : Nat) (o : List Nat), k ≤ l.length ∧ i = .int .i64 k ∧ MulSt l m k 0 o 0 ∧
  wr.ownsRow w.heap.size 215 1 (.slice (some ⟨w.heap.size, 0, none⟩) n n) n (u64s o) ∧ Ext w wr
def MulRel2 (w : World) (l m : List Nat) (n j : Nat) (c i : Value) (wr : World) : Prop :=
 ∃ (k : Nat) (o : List Nat) (cc : Nat), k ≤ m.length ∧ i = .int .i64 k ∧ c = .int .u64 (cc : Int) ∧ MulSt l m j k o cc ∧
  wr.ownsRow w.heap.size 215 1 (.slice (some ⟨w.heap.size, 0, none⟩) n n) n (u64s o) ∧ Ext w wr
theorem owned_cell {w wr : World} {e : TypeId} {n j : Nat} {o : List Nat} (h : wr.ownsRow w.heap.size e 1 (.slice (some ⟨w.heap.size, 0, none⟩) n n) n (u64s o)) (hj : j < o.length) :
  wr.cell? ⟨w.heap.size, j, none⟩ = some (.int .u64 (o.getD j 0 : Nat)) := by
 obtain ⟨b, off, h1, h2⟩ := (Row.of_owns h).at hj
 simp only [Option.some.injEq, Addr.mk.injEq, and_true] at h1
 obtain ⟨rfl, rfl⟩ := h1
 rw [Nat.zero_add] at h2
 exact h2
theorem owned_set {w wr : World} {e : TypeId} {n : Nat} {o : List Nat} (j d : Nat) (h : wr.ownsRow w.heap.size e 1 (.slice (some ⟨w.heap.size, 0, none⟩) n n) n (u64s o)) (x : Ext w wr) :
  (wr.setCell ⟨w.heap.size, j, none⟩ (.int .u64 (d : Int))).ownsRow w.heap.size e 1 (.slice (some ⟨w.heap.size, 0, none⟩) n n) n (u64s (o.set j d)) ∧
   Ext w (wr.setCell ⟨w.heap.size, j, none⟩ (.int .u64 (d : Int))) := by
 refine ⟨?_, x.setCell (Nat.le_refl _) _⟩
 have := (h.stored j (.int .u64 (d : Int))).1
 rw [u64s_set] at this; exact this
def RetNatAt (w : World) (n : Nat) (e : Ending) (w' : World) : Prop := ∃ k cap, e = .returned (.slice (some ⟨w.heap.size, 0, none⟩) k cap) ∧ NatV w' (.slice (some ⟨w.heap.size, 0, none⟩) k cap) n ∧ Ext w w'
set_option maxRecDepth 100000 in
set_option maxHeartbeats 1600000 in
theorem mul_core (a b : Option Addr) (ca cb : Nat) (l m : List Nat) (w : World) (ha : Row w a (u64s l)) (hb : Row w b (u64s m)) (la : Low l) (lb : Low m)
  (sa : l.length ≤ 10000000000000) (sb : m.length ≤ 10000000000000) :
  Calls Tryz.prog 191 #[.slice a l.length ca, .slice b m.length cb] w (RetNatAt w (val l * val m)) := by
 obtain ⟨i0, hi, hz0, hz1, hz2⟩ := info_parts Tryz.info215
 have HI := Lib.hid hi
 have HZ0 := Lib.hid hz0
 have HZ1 := Lib.hid hz1
 have HZ2 := Lib.hid hz2
 clear hi hz0 hz1 hz2
 have HA := Lib.hid ha
 have HB := Lib.hid hb
 have LA := Lib.hid la
 have LB := Lib.hid lb
 clear ha hb la lb
 obtain ⟨n, hn⟩ : ∃ n, n = l.length + m.length := ⟨_, rfl⟩
 have HN := Lib.hid hn
 have hn1 : n ≤ 20000000000001 := by omega
 have hn2 : l.length + m.length ≤ n := by omega
 clear hn
 go_enter Tryz.func191, Tryz.ntmps191
 go_wp2_with (at_make; refine wpList_make_full _ rfl _ _ 105 rfl w.heap.size 215 i0 (.int .u64 0) 1 Tryz.underlying105 HI.out HZ0.out HZ1.out .i64 .i64 _ _ n rfl rfl (by have := HN.out; omega) (by have := HN.out; omega) (by rw [HZ2.out]; omega) (by unfold maxLen; omega) (Nat.le_refl _) ?_; intro w1 hown hgrow)
 rw [made_u64] at hown
 have HO := Lib.hid hown
 have X1 : Hid (Ext w w1) := (Ext.refl w).grown hgrow (fun k hk => by cases hk)
 clear hown hgrow
 go_loopw [20] (MulRel w l m n) (fun i _ => l.length - (intOf i).toNat)
 case atStart => exact ⟨0, _, Nat.zero_le _, rfl, MulSt.start _ _, by rw [← HN.out]; exact HO.out, X1.out⟩
 case round =>
  obtain ⟨j, o, hk, rfl, hst, hown, hx⟩ := hrel
  have HS := Lib.hid hst
  have HW := Lib.hid hown
  have HX := Lib.hid hx
  clear hst hown hx HO X1
  by_cases hlt : j < l.length
  ·obtain ⟨x, hx⟩ : ∃ x, x = l.getD j 0 := ⟨_, rfl⟩
   have hx1 : x < 1000000000 := by rw [hx]; exact LA.out.getD j
   obtain ⟨ba, offa, rfl, hca⟩ := (HA.out.ext HX.out).at hlt
   rw [← hx] at hca
   have XX := Lib.hid hx
   clear hx
   go_wp2_with fail
   obtain ⟨wo, hwo⟩ : ∃ wo : World, wo = wr := ⟨_, rfl⟩
   subst hwo
   go_loopw [8, 27] (MulRel2 w l m n j) (fun _ i _ => m.length - (intOf i).toNat)
   case atStart => exact ⟨0, _, 0, Nat.zero_le _, rfl, rfl, HS.out, HW.out, HX.out⟩
   case round =>
    obtain ⟨k, o2, cc, hk2, rfl, rfl, hst2, hown2, hx2⟩ := hrel
    have HS2 := Lib.hid hst2
    have HW2 := Lib.hid hown2
    have HX2 := Lib.hid hx2
    have hcc := hst2.carry
    have hl2 := hst2.len
    have hlow2 := Lib.hid hst2.low
    have hlo2 : n ≤ o2.length := by have := HN.out; omega
    clear hst2 hown2 hx2 HS HW HX hca hl2
    by_cases hlt2 : k < m.length
    ·obtain ⟨y, hy⟩ : ∃ y, y = m.getD k 0 := ⟨_, rfl⟩
     have hy1 : y < 1000000000 := by rw [hy]; exact LB.out.getD k
     obtain ⟨bb, offb, rfl, hcb⟩ := (HB.out.ext HX2.out).at hlt2
     rw [← hy] at hcb
     obtain ⟨z, hz⟩ : ∃ z, z = o2.getD (j + k) 0 := ⟨_, rfl⟩
     have hz1 : z < 1000000000 := by rw [hz]; exact hlow2.out.getD _
     have hcz := owned_cell HW2.out (j := j + k) (by omega)
     have hfz := HW2.out.frozenAt (j + k)
     rw [← hz] at hcz
     have YY := Lib.hid hy
     have ZZ := Lib.hid hz
     clear hy hz
     obtain ⟨p, hp⟩ : ∃ p, p = x * y := ⟨_, rfl⟩
     have hp1 : p ≤ 999999999 * 999999999 := by rw [hp]; exact Nat.mul_le_mul (by omega) (by omega)
     have hp2 : ((x : Int) * y) = p := by rw [hp]; exact (Int.natCast_mul _ _).symm
     have PP := Lib.hid hp
     clear hp
     go_wp2_with fail
     rw [show ((z : Int) + p + cc) % 1000000000 = (((z + x * y + cc) % 1000000000 : Nat) : Int) by rw [← PP.out]; omega, show ((z : Int) + p + cc) / 1000000000 = (((z + x * y + cc) / 1000000000 : Nat) : Int) by rw [← PP.out]; omega]
     have hs := HS2.out.step LA.out LB.out hlt2 hlt XX.out YY.out ZZ.out rfl
     have hset := owned_set (j + k) ((z + x * y + cc) % 1000000000) HW2.out HX2.out
     exact ⟨⟨k + 1, _, _, by omega, by go_num, rfl, hs, hset.1, hset.2⟩, by simp only [intOf]; omega⟩
    ·obtain rfl : k = m.length := by omega
     obtain ⟨h0, hnext⟩ := HS2.out.next hlt
     have hcz := owned_cell HW2.out (j := j + m.length) (by omega)
     rw [h0] at hcz
     have hfz := HW2.out.frozenAt (j + m.length)
     have HNX := Lib.hid hnext
     clear h0 hnext
     go_wp2_with fail
     have hset := owned_set (j + m.length) cc HW2.out HX2.out
     exact ⟨⟨j + 1, _, by omega, by go_num, HNX.out, hset.1, hset.2⟩, by simp only [intOf]; omega⟩
  ·obtain rfl : j = l.length := by omega
   have hlen := HS.out.len
   have hrow := Lib.hid (Row.of_owns HW.out)
   have hnat := Lib.hid (nat_of_trim (cap := n) (n := val l * val m) HS.out.low hrow.out HS.out.done (by omega))
   have HL : Hid (o.length = n) := by rw [hlen]; exact HN.out.symm
   clear hlen
   go_wp2_with fail
   ((with_reducible refine (trim_len _ _ _ o _ HL.out (by omega) (by omega) hrow.out).mono ?_); rintro e w' ⟨rfl, rfl⟩)
   go_wp2_with fail
   go_ret
   exact ⟨_, _, rfl, hnat.out, HX.out⟩
theorem natMul_at (va vb : Value) (m n : Nat) (w : World) (ha : NatV w va m) (hb : NatV w vb n) (sa : nl m ≤ 10000000000000) (sb : nl n ≤ 10000000000000) :
  Calls Tryz.prog 191 #[va, vb] w (RetNatAt w (m * n)) := by
 obtain ⟨a, ca, rfl, _, ra⟩ := ha
 obtain ⟨b, cb, rfl, _, rb⟩ := hb
 have := mul_core a b ca cb (limbs m) (limbs n) w ra rb (low_limbs _) (low_limbs _) sa sb
 rw [val_limbs, val_limbs] at this
 exact this
theorem natMul_any (va vb : Value) (m n : Nat) (w : World) (ha : NatV w va m) (hb : NatV w vb n) (sa : nl m ≤ 10000000000000) (sb : nl n ≤ 10000000000000) :
  Calls Tryz.prog 191 #[va, vb] w (RetNat w (m * n)) :=
 (natMul_at va vb m n w ha hb sa sb).mono fun _ _ ⟨k, cap, h1, h2, h3⟩ => ⟨_, h1, h2, h3⟩
def ShortRel (w : World) (l : List Nat) (d n : Nat) (r i : Value) (wr : World) : Prop :=
 ∃ (k : Nat) (o : List Nat) (rr : Nat), k ≤ l.length ∧ i = .int .i64 ((k : Int) - 1) ∧ r = .int .u64 (rr : Int) ∧ ShortSt l d k o rr ∧
  wr.ownsRow w.heap.size 215 1 (.slice (some ⟨w.heap.size, 0, none⟩) n n) n (u64s o) ∧ Ext w wr
def RetNatWord (w : World) (n r : Nat) (e : Ending) (w' : World) : Prop := ∃ v, e = .returned (.tuple #[v, .int .u64 (r : Int)]) ∧ NatV w' v n ∧ Ext w w'
set_option maxRecDepth 100000 in
set_option maxHeartbeats 1600000 in
theorem short_core (a : Option Addr) (ca d : Nat) (l : List Nat) (w : World) (ha : Row w a (u64s l)) (la : Low l)
  (sa : l.length ≤ 10000000000000) (hd0 : 0 < d) (hd : d < 1000000000) :
  Calls Tryz.prog 243 #[.slice a l.length ca, .int .u64 d] w (RetNatWord w (val l / d) (val l % d)) := by
 obtain ⟨i0, hi, hz0, hz1, hz2⟩ := info_parts Tryz.info215
 have HI := Lib.hid hi
 have HZ0 := Lib.hid hz0
 have HZ1 := Lib.hid hz1
 have HZ2 := Lib.hid hz2
 clear hi hz0 hz1 hz2
 have HA := Lib.hid ha
 have LA := Lib.hid la
 clear ha la
 obtain ⟨n, hn⟩ : ∃ n, n = l.length := ⟨_, rfl⟩
 have HN := Lib.hid hn
 have hn1 : n ≤ 10000000000001 := by omega
 have hn2 : l.length ≤ n := by omega
 clear hn
 go_enter Tryz.func243, Tryz.ntmps243
 go_wp2_with (at_make; refine wpList_make_full _ rfl _ _ 105 rfl w.heap.size 215 i0 (.int .u64 0) 1 Tryz.underlying105 HI.out HZ0.out HZ1.out .i64 .i64 _ _ n rfl rfl (by have := HN.out; omega) (by have := HN.out; omega) (by rw [HZ2.out]; omega) (by unfold maxLen; omega) (Nat.le_refl _) ?_; intro w1 hown hgrow)
 rw [made_u64] at hown
 have HO := Lib.hid hown
 have X1 : Hid (Ext w w1) := (Ext.refl w).grown hgrow (fun k hk => by cases hk)
 clear hown hgrow
 go_loopw [7, 8] (ShortRel w l d n) (fun _ i _ => (intOf i + 1).toNat)
 case atStart => exact ⟨l.length, _, 0, by omega, rfl, rfl, ShortSt.start _ _ hd0, by rw [← HN.out]; exact HO.out, X1.out⟩
 case round =>
  obtain ⟨k, o, rr, hk, rfl, rfl, hst, hown, hx⟩ := hrel
  have HS := Lib.hid hst
  have HW := Lib.hid hown
  have HX := Lib.hid hx
  have hrr := hst.rest
  have hlo : n ≤ o.length := by have := HN.out; have := hst.len; omega
  clear hst hown hx HO X1
  rcases k with _ | k
  ·have hlen := HS.out.len
   have hrow := Lib.hid (Row.of_owns HW.out)
   have hnat := Lib.hid (nat_of_trim (cap := n) (n := val l / d) HS.out.low hrow.out HS.out.done.1 (by omega))
   have HL : Hid (o.length = n) := by rw [hlen]; exact HN.out.symm
   clear hlen
   go_wp2_with fail
   ((with_reducible refine (trim_len _ _ _ o _ HL.out (by omega) (by omega) hrow.out).mono ?_); rintro e w' ⟨rfl, rfl⟩)
   go_wp2_with fail
   go_ret2
   exact ⟨_, by rw [HS.out.done.2]; rfl, hnat.out, HX.out⟩
  ·rw [show ((k + 1 : Nat) : Int) - 1 = k by omega]
   have hkl : k < l.length := by omega
   obtain ⟨x, hx⟩ : ∃ x, x = l.getD k 0 := ⟨_, rfl⟩
   have hx1 : x < 1000000000 := by rw [hx]; exact LA.out.getD k
   obtain ⟨ba, offa, rfl, hca⟩ := (HA.out.ext HX.out).at hkl
   rw [← hx] at hca
   have hce := owned_cell HW.out (j := k) (by omega)
   have hfz := HW.out.frozenAt k
   have XX := Lib.hid hx
   clear hx
   have hd2 : ((d : Int) == 0) = false := by simp; omega
   go_wp2_with fail
   go_region
   go_wp2_with fail
   rw [show ((rr : Int) * 1000000000 + x) % d = (((rr * 1000000000 + x) % d : Nat) : Int) by simp, show ((rr : Int) * 1000000000 + x) / d = (((rr * 1000000000 + x) / d : Nat) : Int) by simp]
   have hs := HS.out.step LA.out hkl XX.out
   have hset := owned_set k ((rr * 1000000000 + x) / d) HW.out HX.out
   exact ⟨⟨k, _, _, by omega, rfl, rfl, hs, hset.1.drew, hset.2.drew⟩, by simp only [intOf]; omega⟩
theorem natShort_any (va : Value) (m d : Nat) (w : World) (ha : NatV w va m) (sa : nl m ≤ 10000000000000) (hd0 : 0 < d) (hd : d < 1000000000) :
  Calls Tryz.prog 243 #[va, .int .u64 d] w (RetNatWord w (m / d) (m % d)) := by
 obtain ⟨a, ca, rfl, _, ra⟩ := ha
 have := short_core a ca d (limbs m) w ra (low_limbs _) sa hd0 hd
 rw [val_limbs] at this
 exact this
end Go.Proofs.YtpdboaedoimahaaGreatDoor
end
section
namespace Go.Proofs.YtpdboaedoimahaaGreatDoor
structure Parts (v1 v2 u2 top p V U : Nat) : Prop where
 v : ∃ v', v' < p ∧ V = (v1 * 1000000000 + v2) * p + v'
 u : ∃ u', u' < p ∧ U = (top * 1000000000 + u2) * p + u'
 v1pos : 500000000 ≤ v1
 v1low : v1 < 1000000000
 v2low : v2 < 1000000000
 u2low : u2 < 1000000000
 top1 : top ≤ v1 * 1000000000 + 999999999
 less : U < 1000000000 * V
theorem Parts.pos {v1 v2 u2 top p V U : Nat} (h : Parts v1 v2 u2 top p V U) : 0 < V := by
 rcases Nat.eq_zero_or_pos V with h0 | h0
 ·have := h.less; rw [h0] at this; omega
 ·exact h0
structure Trial (v1 top V U q r : Nat) : Prop where
 eq : q * v1 + r = top
 ge : U / V ≤ q
 low : 1000000000 ≤ q → r < 1000000000
 qle : q ≤ 2000000000
theorem Trial.start {v1 v2 u2 top p V U : Nat} (h : Parts v1 v2 u2 top p V U) : Trial v1 top V U (top / v1) (top % v1) := by
 have h1 := h.v1pos
 have hm := Nat.div_add_mod top v1
 have hr := Nat.mod_lt top (show 0 < v1 by omega)
 have hv := h.v1low
 refine ⟨by rw [Nat.mul_comm]; exact hm, ?_, fun _ => by omega, ?_⟩
 ·obtain ⟨v', hv', eV⟩ := h.v
  obtain ⟨u', hu', eU⟩ := h.u
  have hpos := h.pos
  have hu2 := h.u2low
  rw [Nat.le_div_iff_mul_le (by omega)]
  have hq : U / V * V ≤ U := Nat.div_mul_le_self U V
  generalize U / V = q at *
  have hpp : 0 < p := by omega
  have e1 : q * v1 * 1000000000 * p ≤ q * V := by
   rw [eV, Nat.mul_assoc, Nat.mul_assoc]; refine Nat.mul_le_mul_left _ ?_
   rw [← Nat.mul_assoc, Nat.add_mul]; omega
  have e2 : U < (top * 1000000000 + u2 + 1) * p := by rw [eU, Nat.add_mul _ 1, Nat.one_mul]; omega
  have e3 : q * v1 * 1000000000 * p < (top * 1000000000 + u2 + 1) * p := by omega
  have e4 := Nat.lt_of_mul_lt_mul_right e3
  omega
 ·rw [← Nat.lt_succ_iff, Nat.div_lt_iff_lt_mul (by omega)]
  have := h.top1
  omega
theorem Trial.step {v1 v2 u2 top p V U q r : Nat} (h : Parts v1 v2 u2 top p V U) (t : Trial v1 top V U q r)
  (hc : 1000000000 ≤ q ∨ r * 1000000000 + u2 < q * v2) : 0 < q ∧ Trial v1 top V U (q - 1) (r + v1) := by
 have hpos := h.pos
 have hlt : U / V < q := by
  rcases hc with hc | hc
  ·have : U / V < 1000000000 := by rw [Nat.div_lt_iff_lt_mul hpos]; exact h.less
   omega
  ·rw [Nat.div_lt_iff_lt_mul hpos]
   obtain ⟨v', hv', eV⟩ := h.v
   obtain ⟨u', hu', eU⟩ := h.u
   have e1 : q * ((v1 * 1000000000 + v2) * p) ≤ q * V := Nat.mul_le_mul_left _ (by omega)
   have e2 : q * ((v1 * 1000000000 + v2) * p) = ((q * v1) * 1000000000 + q * v2) * p := by
    rw [← Nat.mul_assoc, Nat.mul_add, ← Nat.mul_assoc]
   have e3 : (top * 1000000000 + u2 + 1) * p ≤ ((q * v1) * 1000000000 + q * v2) * p := by
    refine Nat.mul_le_mul_right _ ?_
    have := t.eq
    omega
   have e4 : (top * 1000000000 + u2 + 1) * p = (top * 1000000000 + u2) * p + p := by rw [Nat.add_mul _ 1, Nat.one_mul]
   omega
 have hq : 0 < q := Nat.lt_of_le_of_lt (Nat.zero_le _) hlt
 refine ⟨hq, ?_, Nat.le_sub_one_of_lt hlt, fun hge => ?_, by have := t.qle; omega⟩
 ·obtain ⟨k, rfl⟩ : ∃ k, q = k + 1 := ⟨q - 1, by omega⟩
  have := t.eq
  rw [Nat.add_mul, Nat.one_mul] at this
  simp only [Nat.add_sub_cancel]
  omega
 ·have e := t.eq
  have ht := h.top1
  obtain ⟨k, rfl⟩ : ∃ k, q = 1000000000 + 1 + k := ⟨q - 1000000001, by omega⟩
  have : (1000000000 + 1 + k) * v1 = 1000000000 * v1 + v1 + k * v1 := by rw [Nat.add_mul, Nat.add_mul, Nat.one_mul]
  have h3 : 0 ≤ k * v1 := Nat.zero_le _
  rw [this] at e
  omega
theorem Trial.done {v1 v2 u2 top p V U q r : Nat} (h : Parts v1 v2 u2 top p V U) (t : Trial v1 top V U q r)
  (hc : ¬ (r < 1000000000 ∧ (1000000000 ≤ q ∨ r * 1000000000 + u2 < q * v2))) : q < 1000000000 ∧ U / V ≤ q ∧ q ≤ U / V + 1 := by
 have hq : q < 1000000000 := by
  rcases Nat.lt_or_ge q 1000000000 with h1 | h1
  ·exact h1
  ·exact absurd ⟨t.low h1, Or.inl h1⟩ hc
 have hcond : q * v2 ≤ r * 1000000000 + u2 := by
  rcases Nat.lt_or_ge (r * 1000000000 + u2) (q * v2) with h1 | h1
  ·rcases Nat.lt_or_ge r 1000000000 with h2 | h2
   ·exact absurd ⟨h2, Or.inr h1⟩ hc
   ·have : q * v2 ≤ 999999999 * 999999999 := Nat.mul_le_mul (by omega) (by have := h.v2low; omega)
    omega
  ·exact h1
 refine ⟨hq, t.ge, ?_⟩
 rcases Nat.eq_zero_or_pos q with h0 | h0
 ·rw [h0]; exact Nat.zero_le _
 ·obtain ⟨k, rfl⟩ : ∃ k, q = k + 1 := ⟨q - 1, by omega⟩
  suffices k ≤ U / V by omega
  have hpos := h.pos
  rw [Nat.le_div_iff_mul_le hpos]
  obtain ⟨v', hv', eV⟩ := h.v
  obtain ⟨u', hu', eU⟩ := h.u
  have e1 : (k + 1) * V = (((k + 1) * v1) * 1000000000 + (k + 1) * v2) * p + (k + 1) * v' := by
   rw [eV, Nat.mul_add, ← Nat.mul_assoc, Nat.mul_add, ← Nat.mul_assoc]
  have e2 : (((k + 1) * v1) * 1000000000 + (k + 1) * v2) * p ≤ (top * 1000000000 + u2) * p := by
   refine Nat.mul_le_mul_right _ ?_
   have := t.eq
   omega
  have e3 : (k + 1) * v' ≤ 1000000000 * p := Nat.mul_le_mul (by omega) (by omega)
  have e4 : 1000000000 * p ≤ V := by
   rw [eV]
   have : 1000000000 * p ≤ (v1 * 1000000000 + v2) * p := Nat.mul_le_mul_right _ (by have := h.v1pos; omega)
   omega
  have e5 : (k + 1) * V = k * V + V := by rw [Nat.add_mul, Nat.one_mul]
  omega
structure TakeSt (full v : List Nat) (off q k : Nat) (o : List Nat) (c : Nat) : Prop where
 len : o.length = full.length
 low : Low o
 carry : c ≤ 1000000000
 sum : val ((o.drop off).take k) + q * val (v.take k) = val ((full.drop off).take k) + 1000000000 ^ k * c
 same : ∀ j, j < off ∨ off + k ≤ j → o.getD j 0 = full.getD j 0
theorem getD_drop (l : List Nat) (off k : Nat) : (l.drop off).getD k 0 = l.getD (off + k) 0 := by
 simp [List.getD_eq_getElem?_getD, List.getElem?_drop]
theorem take_set_ge (l : List Nat) (j k d : Nat) (h : k ≤ j) : (l.set j d).take k = l.take k := by
 rw [List.take_set_of_le h]
theorem TakeSt.start (full v : List Nat) (off q : Nat) (h : Low full) : TakeSt full v off q 0 full 0 :=
 ⟨rfl, h, by omega, by simp [val], fun _ _ => rfl⟩
theorem TakeSt.step {full v o : List Nat} {off q k c x y d e : Nat} (h : TakeSt full v off q k o c) (hk : off + k < full.length)
  (hx : x = v.getD k 0) (hy : y = o.getD (off + k) 0) (hd : d < 1000000000) (he : e ≤ 1000000000) (hde : d + q * x + c = y + 1000000000 * e) :
  TakeSt full v off q (k + 1) (o.set (off + k) d) e := by
 refine ⟨by simp [h.len], h.low.set _ hd, he, ?_, fun j hj => ?_⟩
 ·rw [val_take_succ, val_take_succ, val_take_succ, getD_drop, getD_drop]
  have e1 : ((o.set (off + k) d).drop off).take k = (o.drop off).take k := by
   rw [List.drop_set, if_neg (by omega), take_set_ge _ _ _ _ (by omega)]
  have e2 : (o.set (off + k) d).getD (off + k) 0 = d := by
   simp [List.getD_eq_getElem?_getD, h.len, hk]
  rw [e1, e2, ← hx, ← h.same (off + k) (Or.inr (Nat.le_refl _)), ← hy, Nat.pow_succ]
  have hs := h.sum
  generalize 1000000000 ^ k = p at *
  have e3 : p * d + p * (q * x) + p * c = p * y + p * 1000000000 * e := by
   rw [Nat.mul_assoc, ← Nat.mul_add, ← Nat.mul_add, ← Nat.mul_add, hde]
  have e4 : q * (val (List.take k v) + p * x) = q * val (List.take k v) + p * (q * x) := by
   rw [Nat.mul_add]; congr 1; rw [← Nat.mul_assoc, Nat.mul_comm q, Nat.mul_assoc]
  omega
 ·rw [getD_set_ne _ _ (by omega)]; exact h.same j (by omega)
structure BackSt (full v : List Nat) (off k : Nat) (o : List Nat) (c : Nat) : Prop where
 len : o.length = full.length
 low : Low o
 carry : c ≤ 1
 sum : val ((o.drop off).take k) + 1000000000 ^ k * c = val ((full.drop off).take k) + val (v.take k)
 same : ∀ j, j < off ∨ off + k ≤ j → o.getD j 0 = full.getD j 0
theorem BackSt.start (full v : List Nat) (off : Nat) (h : Low full) : BackSt full v off 0 full 0 :=
 ⟨rfl, h, by omega, by simp [val], fun _ _ => rfl⟩
theorem BackSt.step {full v o : List Nat} {off k c x y : Nat} (h : BackSt full v off k o c) (hv : Low v) (hk : off + k < full.length)
  (hx : x = v.getD k 0) (hy : y = o.getD (off + k) 0) :
  BackSt full v off (k + 1) (o.set (off + k) ((y + x + c) % 1000000000)) ((y + x + c) / 1000000000) := by
 have h1 := hv.getD k
 have h2 := h.low.getD (off + k)
 have h3 := h.carry
 rw [← hx] at h1
 rw [← hy] at h2
 refine ⟨by simp [h.len], h.low.set _ (by omega), by omega, ?_, fun j hj => ?_⟩
 ·rw [val_take_succ, val_take_succ, val_take_succ, getD_drop, getD_drop]
  have e1 : ((o.set (off + k) ((y + x + c) % 1000000000)).drop off).take k = (o.drop off).take k := by
   rw [List.drop_set, if_neg (by omega), take_set_ge _ _ _ _ (by omega)]
  have e2 : (o.set (off + k) ((y + x + c) % 1000000000)).getD (off + k) 0 = (y + x + c) % 1000000000 := by
   simp [List.getD_eq_getElem?_getD, h.len, hk]
  rw [e1, e2, ← hx, ← h.same (off + k) (Or.inr (Nat.le_refl _)), ← hy, Nat.pow_succ, Nat.add_assoc, carry_split, Nat.mul_add, Nat.mul_add]
  have hs := h.sum
  omega
 ·rw [getD_set_ne _ _ (by omega)]; exact h.same j (by omega)
end Go.Proofs.YtpdboaedoimahaaGreatDoor
end
section
namespace Go.Proofs.YtpdboaedoimahaaGreatDoor
theorem val_two (l : List Nat) (n : Nat) : val (l.take (n + 2)) = val (l.take n) + 1000000000 ^ n * (l.getD n 0 + 1000000000 * l.getD (n + 1) 0) := by
 rw [val_take_succ, val_take_succ, Nat.pow_succ, Nat.mul_add, Nat.mul_assoc]; omega
theorem val_take_lt {l : List Nat} (h : Low l) (k : Nat) : val (l.take k) < 1000000000 ^ k :=
 Nat.lt_of_lt_of_le (val_lt (h.take k)) (Nat.pow_le_pow_right (by omega) (by rw [List.length_take]; omega))
theorem step_parts {full v : List Nat} {off n : Nat} (hn : v.length = n + 2) (hf : Low full) (hv : Low v) (hv1 : 500000000 ≤ v.getD (n + 1) 0)
  (hU : val ((full.drop off).take (n + 3)) < 1000000000 * val v) :
  Parts (v.getD (n + 1) 0) (v.getD n 0) (full.getD (off + n) 0) (full.getD (off + (n + 2)) 0 * 1000000000 + full.getD (off + (n + 1)) 0) (1000000000 ^ n) (val v) (val ((full.drop off).take (n + 3))) := by
 have eV : val v = (v.getD (n + 1) 0 * 1000000000 + v.getD n 0) * 1000000000 ^ n + val (v.take n) := by
  have := val_two v n
  rw [← hn, List.take_length] at this
  rw [this, Nat.mul_comm (v.getD (n + 1) 0 * 1000000000 + v.getD n 0), Nat.mul_comm (v.getD (n + 1) 0), Nat.add_comm (v.getD n 0), Nat.add_comm]
 have eU : val ((full.drop off).take (n + 3)) = ((full.getD (off + (n + 2)) 0 * 1000000000 + full.getD (off + (n + 1)) 0) * 1000000000 + full.getD (off + n) 0) * 1000000000 ^ n + val ((full.drop off).take n) := by
  rw [val_take_succ, val_two, getD_drop, getD_drop, getD_drop, Nat.pow_add, Nat.mul_comm _ (1000000000 ^ n)]
  generalize 1000000000 ^ n = p
  rw [show (1000000000 : Nat) ^ 2 = 1000000000 * 1000000000 by rfl, Nat.mul_assoc p, Nat.add_assoc (val _), ← Nat.mul_add, Nat.add_comm (val _)]
  congr 2
  omega
 have h1 := hv.getD (n + 1)
 have h2 := hv.getD n
 have h3 := hf.getD (off + n)
 have h4 := hf.getD (off + (n + 1))
 have h5 := hf.getD (off + (n + 2))
 have l1 := val_take_lt hv n
 have l2 := val_take_lt (hf.drop off) n
 refine ⟨⟨_, l1, eV⟩, ⟨_, l2, eU⟩, hv1, h1, h2, h3, ?_, hU⟩
 rw [eU, eV] at hU
 generalize v.getD (n + 1) 0 = v1 at *
 generalize v.getD n 0 = v2 at *
 generalize full.getD (off + n) 0 = u2 at *
 generalize full.getD (off + (n + 1)) 0 = u1 at *
 generalize full.getD (off + (n + 2)) 0 = u0 at *
 generalize val ((full.drop off).take n) = x at *
 generalize val (v.take n) = y at *
 generalize 1000000000 ^ n = p at *
 have : (u0 * 1000000000 * 1000000000) * p < ((v1 + 1) * 1000000000 * 1000000000) * p := by
  have e1 : (u0 * 1000000000 * 1000000000) * p ≤ ((u0 * 1000000000 + u1) * 1000000000 + u2) * p := Nat.mul_le_mul_right _ (by omega)
  have e2 : 1000000000 * ((v1 * 1000000000 + v2) * p + y) ≤ 1000000000 * ((v1 * 1000000000 + v2 + 1) * p) := by
   refine Nat.mul_le_mul_left _ ?_
   rw [Nat.add_mul _ 1, Nat.one_mul]; omega
  have e3 : 1000000000 * ((v1 * 1000000000 + v2 + 1) * p) = (1000000000 * (v1 * 1000000000 + v2 + 1)) * p := by rw [Nat.mul_assoc]
  have e4 : (1000000000 * (v1 * 1000000000 + v2 + 1)) * p ≤ ((v1 + 1) * 1000000000 * 1000000000) * p := Nat.mul_le_mul_right _ (by omega)
  omega
 have := Nat.lt_of_mul_lt_mul_right this
 omega
theorem val_drop_succ (l : List Nat) (off n : Nat) : val ((l.drop off).take (n + 1)) = val ((l.drop off).take n) + 1000000000 ^ n * l.getD (off + n) 0 := by
 rw [val_take_succ, getD_drop]
theorem set_last (o : List Nat) (off n d : Nat) (h : off + n < o.length) : val (((o.set (off + n) d).drop off).take (n + 1)) = val ((o.drop off).take n) + 1000000000 ^ n * d := by
 rw [val_drop_succ]
 have e1 : ((o.set (off + n) d).drop off).take n = (o.drop off).take n := by
  rw [List.drop_set, if_neg (by omega), take_set_ge _ _ _ _ (by omega)]
 have e2 : (o.set (off + n) d).getD (off + n) 0 = d := by simp [List.getD_eq_getElem?_getD, h]
 rw [e1, e2]
structure StepDone (full : List Nat) (off n V : Nat) (o : List Nat) : Prop where
 len : o.length = full.length
 low : Low o
 rest : val ((o.drop off).take (n + 1)) = val ((full.drop off).take (n + 1)) % V
 same : ∀ j, j < off ∨ off + n < j → o.getD j 0 = full.getD j 0
theorem step_enough {full v o : List Nat} {off n q c : Nat} (hn : v.length = n) (hl : off + n < full.length) (h : TakeSt full v off q n o c) (hf : Low full)
  (hge : val ((full.drop off).take (n + 1)) / val v ≤ q) (hpos : 0 < val v) (hc : c ≤ full.getD (off + n) 0) :
  q = val ((full.drop off).take (n + 1)) / val v ∧ StepDone full off n (val v) (o.set (off + n) (full.getD (off + n) 0 - c)) := by
 have hs := h.sum
 rw [← hn, List.take_length, hn] at hs
 have hU := val_drop_succ full off n
 have hset := set_last o off n (full.getD (off + n) 0 - c) (by rw [h.len]; exact hl)
 have hlow := hf.getD (off + n)
 generalize hu : full.getD (off + n) 0 = u at *
 generalize hUU : val ((full.drop off).take (n + 1)) = U at *
 generalize val v = V at *
 generalize val ((full.drop off).take n) = x at *
 generalize val ((o.drop off).take n) = y at *
 have hpm : 1000000000 ^ n * u = 1000000000 ^ n * c + 1000000000 ^ n * (u - c) := by rw [← Nat.mul_add]; congr 1; omega
 have hUq : U = q * V + (y + 1000000000 ^ n * (u - c)) := by
  generalize 1000000000 ^ n * (u - c) = a at *
  generalize 1000000000 ^ n * c = b at *
  generalize 1000000000 ^ n * u = d at *
  omega
 have hq : q = U / V := by
  refine Nat.le_antisymm ?_ hge
  rw [Nat.le_div_iff_mul_le hpos]; omega
 refine ⟨hq, by simp [h.len], h.low.set _ (by omega), ?_, fun j hj => ?_⟩
 ·rw [hset, hUU]
  have := Nat.div_add_mod U V
  rw [← hq, Nat.mul_comm] at this
  generalize 1000000000 ^ n * (u - c) = a at *
  omega
 ·rw [getD_set_ne _ _ (by omega)]; exact h.same j (by omega)
theorem step_back {full v o o2 : List Nat} {off n q c cb : Nat} (hn : v.length = n) (hl : off + n < full.length) (h : TakeSt full v off q n o c)
  (hge : q ≤ val ((full.drop off).take (n + 1)) / val v + 1) (hpos : 0 < val v) (hv : val v < 1000000000 ^ n) (hc : full.getD (off + n) 0 < c) (hb : BackSt o v off n o2 cb) :
  q = val ((full.drop off).take (n + 1)) / val v + 1 ∧ full.getD (off + n) 0 + cb = c ∧ StepDone full off n (val v) (o2.set (off + n) 0) := by
 have hs := h.sum
 have hs2 := hb.sum
 rw [← hn, List.take_length, hn] at hs hs2
 have hU := val_drop_succ full off n
 have hset := set_last o2 off n 0 (by rw [hb.len, h.len]; exact hl)
 have hy := val_take_lt (h.low.drop off) n
 have hz := val_take_lt (hb.low.drop off) n
 have hdm := Nat.div_add_mod (val ((full.drop off).take (n + 1))) (val v)
 have hml := Nat.mod_lt (val ((full.drop off).take (n + 1))) hpos
 generalize full.getD (off + n) 0 = u at *
 generalize hUU : val ((full.drop off).take (n + 1)) = U at *
 generalize val v = V at *
 generalize val ((full.drop off).take n) = x at *
 generalize val ((o.drop off).take n) = y at *
 generalize val ((o2.drop off).take n) = z at *
 have hbc := hb.carry
 obtain ⟨k, rfl⟩ : ∃ k, c = u + 1 + k := ⟨c - u - 1, by omega⟩
 have hm : 1000000000 ^ n * (u + 1 + k) = 1000000000 ^ n * u + 1000000000 ^ n + 1000000000 ^ n * k := by rw [Nat.mul_add, Nat.mul_add, Nat.mul_one]
 have hk0 : 1000000000 ^ n * 0 ≤ 1000000000 ^ n * k := Nat.mul_le_mul_left _ (Nat.zero_le _)
 rw [hm] at hs
 generalize hP : 1000000000 ^ n = P at *
 have hlt : U < q * V := by
  generalize P * u = a at *
  generalize P * k = b at *
  omega
 have hq : q = U / V + 1 := by
  refine Nat.le_antisymm hge ?_
  exact (Nat.div_lt_iff_lt_mul hpos).2 hlt
 have hqV : q * V = V * (U / V) + V := by rw [hq, Nat.add_mul, Nat.one_mul, Nat.mul_comm]
 have hR : z + P * cb = U % V + P + P * k := by
  generalize P * u = a at *
  generalize P * k = b at *
  generalize P * cb = d at *
  generalize V * (U / V) = f at *
  omega
 have hcb : cb = 1 := by
  rcases Nat.eq_zero_or_pos cb with h0 | h0
  ·subst h0; rw [Nat.mul_zero] at hR
   generalize P * k = b at *
   omega
  ·omega
 subst hcb
 rw [Nat.mul_one] at hR
 have hk : k = 0 := by
  rcases Nat.eq_zero_or_pos k with h0 | h0
  ·exact h0
  ·have : P * 1 ≤ P * k := Nat.mul_le_mul_left _ h0
   generalize P * k = b at *
   omega
 subst hk
 refine ⟨hq, by omega, by simp [hb.len, h.len], hb.low.set _ (by omega), ?_, fun j hj => ?_⟩
 ·rw [hset, hUU, Nat.mul_zero, Nat.add_zero]; rw [Nat.mul_zero] at hR; omega
 ·rw [getD_set_ne _ _ (by omega), hb.same j (by omega)]; exact h.same j (by omega)
structure DivSt (A V n m : Nat) (j : Nat) (u qs : List Nat) : Prop where
 ulen : u.length = m + n
 qlen : qs.length = m
 ulow : Low u
 qlow : Low qs
 less : val (u.drop j) < V
 sum : val u + 1000000000 ^ j * (val (qs.drop j) * V) = A
 zero : ∀ k, j + n ≤ k → u.getD k 0 = 0
theorem val_drop_take {u : List Nat} {j k : Nat} (h : ∀ i, j + k ≤ i → u.getD i 0 = 0) : val ((u.drop j).take k) = val (u.drop j) := by
 have hz : val ((u.drop j).drop k) = 0 := by
  have : ∀ (l : List Nat), (∀ i, l.getD i 0 = 0) → val l = 0 := by
   intro l
   induction l with
   | nil => intro _; rfl
   | cons d l ih =>
    intro hl
    have h0 : d = 0 := by simpa using hl 0
    have h1 := ih (fun i => by simpa using hl (i + 1))
    simp [val, h0, h1]
  refine this _ (fun i => ?_)
  rw [getD_drop, getD_drop]; exact h _ (by omega)
 by_cases hk : k ≤ (u.drop j).length
 ·have := val_split (u.drop j) k hk
  rw [hz] at this; omega
 ·rw [List.take_of_length_le (by omega)]
theorem val_drop_lt {u : List Nat} {j : Nat} (hj : j < u.length) : val (u.drop j) = u.getD j 0 + 1000000000 * val (u.drop (j + 1)) := by
 rw [drop_getD u j hj]; rfl
theorem DivSt.before {A V n m j : Nat} {u qs : List Nat} (h : DivSt A V n m (j + 1) u qs) (hj : j < m) :
  val ((u.drop j).take (n + 1)) < 1000000000 * V := by
 rw [val_drop_take (fun i hi => h.zero i (by omega)), val_drop_lt (by have := h.ulen; omega)]
 have := h.less
 have := h.ulow.getD j
 omega
theorem DivSt.step {A V n m j : Nat} {u u' qs : List Nat} (h : DivSt A V n m (j + 1) u qs) (hj : j < m) (hV : 0 < V) (hVn : V < 1000000000 ^ n)
  (hs : StepDone u j n V u') (hq : val ((u.drop j).take (n + 1)) / V < 1000000000) :
  DivSt A V n m j u' (qs.set j (val ((u.drop j).take (n + 1)) / V)) := by
 have hrest := hs.rest
 have hml := Nat.mod_lt (val ((u.drop j).take (n + 1))) hV
 have htop : u'.getD (j + n) 0 = 0 := by
  have := val_drop_succ u' j n
  rcases Nat.eq_zero_or_pos (u'.getD (j + n) 0) with h0 | h0
  ·exact h0
  ·have : 1000000000 ^ n * 1 ≤ 1000000000 ^ n * u'.getD (j + n) 0 := Nat.mul_le_mul_left _ h0
   omega
 have hzero : ∀ k, j + n ≤ k → u'.getD k 0 = 0 := by
  intro k hk
  by_cases e : k = j + n
  ·rw [e]; exact htop
  ·rw [hs.same k (by omega)]; exact h.zero k (by omega)
 have hd' : val (u'.drop j) = val ((u.drop j).take (n + 1)) % V := by
  rw [← hrest, val_drop_take (fun i hi => hzero i (by omega))]
 refine ⟨by rw [hs.len]; exact h.ulen, by simp [h.qlen], hs.low, h.qlow.set _ hq, by rw [hd']; exact hml, ?_, hzero⟩
 have hsum := h.sum
 have e1 := val_split u j (by have := h.ulen; omega)
 have e2 := val_split u' j (by have := h.ulen; have := hs.len; omega)
 have e3 : u'.take j = u.take j := by
  apply List.ext_getElem?
  intro i
  rw [List.getElem?_take, List.getElem?_take]
  split
  ·rename_i hi
   have := hs.same i (Or.inl hi)
   have l1 : i < u'.length := by have := h.ulen; have := hs.len; omega
   have l2 : i < u.length := by have := h.ulen; omega
   simp [List.getD_eq_getElem?_getD, l1, l2] at this ⊢
   exact this
  ·rfl
 have e4 : val ((u.drop j).take (n + 1)) = val (u.drop j) := val_drop_take (fun i hi => h.zero i (by omega))
 have e5 : val ((qs.set j (val ((u.drop j).take (n + 1)) / V)).drop j) = val ((u.drop j).take (n + 1)) / V + 1000000000 * val (qs.drop (j + 1)) := by
  rw [drop_getD _ j (by simp [h.qlen, hj]), List.drop_set_of_lt (by omega)]
  have : (qs.set j (val ((u.drop j).take (n + 1)) / V)).getD j 0 = val ((u.drop j).take (n + 1)) / V := by
   simp [List.getD_eq_getElem?_getD, h.qlen, hj]
  rw [this]; rfl
 rw [e5, e2, e3, hd', e4]
 rw [e1, Nat.pow_succ] at hsum
 have hdm := Nat.div_add_mod (val (u.drop j)) V
 generalize val (u.drop j) / V = q at *
 generalize val (u.drop j) % V = r at *
 generalize val (u.take j) = x at *
 generalize val (qs.drop (j + 1)) = y at *
 generalize 1000000000 ^ j = p at *
 rw [← hdm] at hsum
 rw [← hsum, Nat.add_mul, Nat.mul_add, Nat.mul_add, Nat.mul_comm V q]
 rw [show p * 1000000000 * (y * V) = p * (1000000000 * y * V) by rw [Nat.mul_assoc, Nat.mul_assoc]]
 omega
theorem DivSt.done {A V n m : Nat} {u qs : List Nat} (h : DivSt A V n m 0 u qs) (hV : 0 < V) : val qs = A / V ∧ val u = A % V := by
 have hs := h.sum
 have hl := h.less
 simp only [List.drop_zero, Nat.pow_zero, Nat.one_mul] at hs hl
 rw [← hs]
 constructor
 ·rw [Nat.add_mul_div_right _ _ hV, Nat.div_eq_of_lt hl, Nat.zero_add]
 ·rw [Nat.add_mul_mod_self_right, Nat.mod_eq_of_lt hl]
end Go.Proofs.YtpdboaedoimahaaGreatDoor
end
section
namespace Go.Proofs.YtpdboaedoimahaaGreatDoor
open Go.RowKit
theorem grown_refl (w : World) (r : Option Nat) : w.grownBy w r := ⟨rfl, rfl, rfl, Nat.le_refl _, fun _ _ _ => rfl⟩
theorem grown_trans {a b c : World} {r : Option Nat} (h : a.grownBy b r) (k : b.grownBy c r) : a.grownBy c r :=
 ⟨k.os.trans h.os, k.tape.trans h.tape, k.output.trans h.output, Nat.le_trans h.size k.size, fun i hi hr => (k.block i (Nat.lt_of_lt_of_le hi h.size) hr).trans (h.block i hi hr)⟩
theorem grown_drewN {a b : World} {r : Option Nat} (h : a.grownBy b r) (n : Nat) : a.grownBy (b.drewN n) r := by
 obtain ⟨h1, h2, h3, h4, h5⟩ := h
 exact ⟨h1, h2, h3, h4, h5⟩
def RowOff (w : World) (g : Nat) (a : Option Addr) (cs : List Value) : Prop := Row w a cs ∧ ∀ b off, a = some ⟨b, off, none⟩ → b ≠ g
theorem RowOff.grown {w w' : World} {g : Nat} {a : Option Addr} {cs : List Value} (h : RowOff w g a cs) (hg : w.grownBy w' (some g)) : RowOff w' g a cs := by
 refine ⟨fun j hj => ?_, h.2⟩
 obtain ⟨b, off, h1, h2⟩ := h.1 j hj
 exact ⟨b, off, h1, hg.cell h2 (by simp; exact h.2 b off h1)⟩
def RetStep (w : World) (base g N : Nat) (full : List Nat) (off n V : Nat) (e : Ending) (w' : World) : Prop :=
 ∃ o, e = .returned (.int .u64 ((val ((full.drop off).take (n + 1)) / V : Nat) : Int)) ∧ StepDone full off n V o ∧
  w'.ownsRow base 215 1 (.slice (some ⟨g, 0, none⟩) N N) N (u64s o) ∧ w.grownBy w' (some g)
def TrialRel (w : World) (v1 top V U : Nat) (q r : Value) (wr : World) : Prop :=
 ∃ qq rr : Nat, q = .int .u64 (qq : Int) ∧ r = .int .u64 (rr : Int) ∧ Trial v1 top V U qq rr ∧ rr < 2000000000 ∧ ∃ d, wr = w.drewN d
def TakeRel (w : World) (base g N : Nat) (full m : List Nat) (off q n : Nat) (c i : Value) (wr : World) : Prop :=
 ∃ (k : Nat) (o : List Nat) (cc : Nat), k ≤ n ∧ i = .int .i64 k ∧ c = .int .u64 (cc : Int) ∧ TakeSt full m off q k o cc ∧
  wr.ownsRow base 215 1 (.slice (some ⟨g, 0, none⟩) N N) N (u64s o) ∧ w.grownBy wr (some g)
def BackRel (w : World) (base g N : Nat) (full m : List Nat) (off n : Nat) (c i : Value) (wr : World) : Prop :=
 ∃ (k : Nat) (o : List Nat) (cc : Nat), k ≤ n ∧ i = .int .i64 k ∧ c = .int .u64 (cc : Int) ∧ BackSt full m off k o cc ∧
  wr.ownsRow base 215 1 (.slice (some ⟨g, 0, none⟩) N N) N (u64s o) ∧ w.grownBy wr (some g)
theorem own_cell {wr : World} {base g : Nat} {e : TypeId} {n j : Nat} {o : List Nat} (h : wr.ownsRow base e 1 (.slice (some ⟨g, 0, none⟩) n n) n (u64s o)) (hj : j < o.length) :
  wr.cell? ⟨g, j, none⟩ = some (.int .u64 (o.getD j 0 : Nat)) := by
 obtain ⟨b, off, h1, h2⟩ := (Row.of_owns h).at hj
 simp only [Option.some.injEq, Addr.mk.injEq, and_true] at h1
 obtain ⟨rfl, rfl⟩ := h1
 rw [Nat.zero_add] at h2
 exact h2
theorem own_set {w wr : World} {base g : Nat} {e : TypeId} {n : Nat} {o : List Nat} (j d : Nat) (h : wr.ownsRow base e 1 (.slice (some ⟨g, 0, none⟩) n n) n (u64s o)) (x : w.grownBy wr (some g)) :
  (wr.setCell ⟨g, j, none⟩ (.int .u64 (d : Int))).ownsRow base e 1 (.slice (some ⟨g, 0, none⟩) n n) n (u64s (o.set j d)) ∧
   w.grownBy (wr.setCell ⟨g, j, none⟩ (.int .u64 (d : Int))) (some g) := by
 have := h.stored j (.int .u64 (d : Int))
 rw [u64s_set] at this; exact ⟨this.1, grown_trans x this.2⟩
theorem wrap_back {u c b : Nat} (h : u + c = b) : IntKind.u64.wrap ((u : Int) + IntKind.u64.wrap ((c : Int) - b)) = ((0 : Nat) : Int) := by
 have e : ∀ n : Int, IntKind.u64.wrap n = n % 18446744073709551616 := fun n => by simp [IntKind.wrap, IntKind.signed, IntKind.bits]
 rw [e, e]; omega
set_option maxRecDepth 100000 in
set_option maxHeartbeats 3200000 in
theorem step_core (base g N off n cu : Nat) (b : Option Addr) (cb : Nat) (full m : List Nat) (w : World)
  (hown : w.ownsRow base 215 1 (.slice (some ⟨g, 0, none⟩) N N) N (u64s full)) (hv : RowOff w g b (u64s m)) (hfl : full.length = N)
  (lf : Low full) (lm : Low m) (hm : m.length = n + 2) (hN : off + (n + 2) < N) (hNN : N ≤ 30000000000000) (hcu : n + 3 ≤ cu)
  (hv1 : 500000000 ≤ m.getD (n + 1) 0) (hU : val ((full.drop off).take (n + 3)) < 1000000000 * val m) :
  Calls Tryz.prog 244 #[.slice (some ⟨g, off, none⟩) (n + 3) cu, .slice b (n + 2) cb] w (RetStep w base g N full off (n + 2) (val m)) := by
 have hp := step_parts hm lf lm hv1 hU
 obtain ⟨bv, ov, rfl, hcv1⟩ := hv.1.at (j := n + 1) (by omega)
 have hcv2 : w.cell? ⟨bv, ov + n, none⟩ = some (.int .u64 (m.getD n 0 : Nat)) := by
  obtain ⟨b', off', h1, h2⟩ := hv.1.at (j := n) (by omega)
  simp only [Option.some.injEq, Addr.mk.injEq, and_true] at h1
  obtain ⟨rfl, rfl⟩ := h1
  exact h2
 have hcu0 := own_cell hown (j := off + (n + 2)) (by omega)
 have hcu1 := own_cell hown (j := off + (n + 1)) (by omega)
 have hcu2 := own_cell hown (j := off + n) (by omega)
 obtain ⟨v1, hv1e⟩ : ∃ x, x = m.getD (n + 1) 0 := ⟨_, rfl⟩
 obtain ⟨v2, hv2e⟩ : ∃ x, x = m.getD n 0 := ⟨_, rfl⟩
 obtain ⟨u0, hu0e⟩ : ∃ x, x = full.getD (off + (n + 2)) 0 := ⟨_, rfl⟩
 obtain ⟨u1, hu1e⟩ : ∃ x, x = full.getD (off + (n + 1)) 0 := ⟨_, rfl⟩
 obtain ⟨u2, hu2e⟩ : ∃ x, x = full.getD (off + n) 0 := ⟨_, rfl⟩
 rw [← hv1e, ← hv2e, ← hu0e, ← hu1e, ← hu2e] at hp
 rw [← hv1e] at hcv1 hv1
 rw [← hv2e] at hcv2
 rw [← hu0e] at hcu0
 rw [← hu1e] at hcu1
 rw [← hu2e] at hcu2
 have b1 := hp.v1low
 have b2 := hp.v2low
 have b3 := hp.u2low
 have b4 : u0 < 1000000000 := by rw [hu0e]; exact lf.getD _
 have b5 : u1 < 1000000000 := by rw [hu1e]; exact lf.getD _
 have b6 : ((v1 : Int) == 0) = false := by simp; omega
 have HP := Lib.hid hp
 have HO := Lib.hid hown
 have HV := Lib.hid hv
 have LF := Lib.hid lf
 have LM := Lib.hid lm
 have HM := Lib.hid hm
 have HFL := Lib.hid hfl
 have E0 := Lib.hid hu0e
 clear hp hown hv lf lm hm hfl hv1e hv2e hu0e hu1e hu2e hU
 go_enter Tryz.func244, Tryz.ntmps244
 go_wp2_with fail
 go_quiet (fail)
 go_wp2_with fail
 go_quiet (fail)
 go_wp2_with fail
 rw [show ((u0 : Int) * 1000000000 + u1) / v1 = (((u0 * 1000000000 + u1) / v1 : Nat) : Int) by simp, show ((u0 : Int) * 1000000000 + u1) % v1 = (((u0 * 1000000000 + u1) % v1 : Nat) : Int) by simp]
 go_loopw [7, 8] (TrialRel w v1 (u0 * 1000000000 + u1) (val m) (val ((full.drop off).take (n + 3)))) (fun _ r _ => (1000000000 - intOf r).toNat)
 case atStart =>
  have hlt := Nat.mod_lt (u0 * 1000000000 + u1) (show 0 < v1 by omega)
  exact ⟨_, _, rfl, rfl, Trial.start HP.out, by omega, _, World.drewN_drewN _ _ _⟩
 case round =>
  obtain ⟨qq, rr, rfl, rfl, ht, hr2, d, rfl⟩ := hrel
  have HT := Lib.hid ht
  have hq2 := ht.qle
  clear ht
  obtain ⟨p, hp⟩ : ∃ p, p = qq * v2 := ⟨_, rfl⟩
  have hp1 : p ≤ 2000000000 * 999999999 := by rw [hp]; exact Nat.mul_le_mul (by omega) (by omega)
  have hp2 : ((qq : Int) * v2) = p := by rw [hp]; exact (Int.natCast_mul _ _).symm
  have PP := Lib.hid hp
  clear hp
  by_cases hcont : rr < 1000000000 ∧ (1000000000 ≤ qq ∨ rr * 1000000000 + u2 < p)
  ·have hstep := HT.out.step HP.out (by rw [← PP.out]; exact hcont.2)
   have HST := Lib.hid hstep
   have hq0 := hstep.1
   clear hstep
   obtain ⟨hc1, hc2⟩ := hcont
   have d1 : decide ((rr : Int) < 1000000000) = true := by simp; omega
   by_cases hc3 : 1000000000 ≤ qq
   ·have d2 : decide ((1000000000 : Int) ≤ qq) = true := by simp; omega
    clear hc2
    go_wp2_with fail
    go_quiet (fail)
    go_wp2_with fail
    exact ⟨⟨qq - 1, rr + v1, by go_num, by go_num, HST.out.2, by omega, _, rfl⟩, by simp only [intOf]; omega⟩
   ·have d2 : decide ((1000000000 : Int) ≤ qq) = false := by simp; omega
    have d3 : decide ((rr : Int) * 1000000000 + u2 < p) = true := by simp; omega
    clear hc2
    go_wp2_with fail
    go_quiet (fail)
    go_wp2_with fail
    exact ⟨⟨qq - 1, rr + v1, by go_num, by go_num, HST.out.2, by omega, _, rfl⟩, by simp only [intOf]; omega⟩
  ·have hfin := HT.out.done HP.out (by rw [← PP.out]; exact hcont)
   have HF := Lib.hid hfin
   have hqB := hfin.1
   clear hfin
   have hsplit : (decide ((rr : Int) < 1000000000) = false) ∨ (decide ((rr : Int) < 1000000000) = true ∧ decide ((1000000000 : Int) ≤ qq) = false ∧ decide ((rr : Int) * 1000000000 + u2 < p) = false) := by
    simp only [decide_eq_false_iff_not, decide_eq_true_eq]; omega
   clear hcont
   rcases hsplit with d1 | ⟨d1, d2, d3⟩
   all_goals
    go_wp2_with fail
    go_quiet (fail)
    go_wp2_with fail
    go_loopw [9, 80] (TakeRel w base g N full m off qq (n + 2)) (fun _ i _ => (n + 2) - (intOf i).toNat)
    case atStart => exact ⟨0, full, 0, by omega, rfl, rfl, TakeSt.start _ _ _ _ LF.out, ownsRow_drewN HO.out _, grown_drewN (grown_refl _ _) _⟩
    case round =>
     obtain ⟨k, o, cc, hk, rfl, rfl, hst, hown, hgr⟩ := hrel
     have HS := Lib.hid hst
     have HW := Lib.hid hown
     have HG := Lib.hid hgr
     have hcc := hst.carry
     have hlo : N ≤ o.length := by have := hst.len; have := HFL.out; omega
     clear hst hown hgr d1 hcv1 hcv2 hcu0 hcu1 hcu2 hp2 hp1
     by_cases hlt : k < n + 2
     ·obtain ⟨x, hx⟩ : ∃ x, x = m.getD k 0 := ⟨_, rfl⟩
      obtain ⟨y, hy⟩ : ∃ y, y = o.getD (off + k) 0 := ⟨_, rfl⟩
      have hx1 : x < 1000000000 := by rw [hx]; exact LM.out.getD k
      have hy1 : y < 1000000000 := by rw [hy]; exact HS.out.low.getD _
      have hcx : wr.cell? ⟨bv, ov + k, none⟩ = some (.int .u64 (x : Int)) := by
       obtain ⟨b', off', h1, h2⟩ := (HV.out.grown HG.out).1.at (j := k) (by rw [HM.out]; exact hlt)
       simp only [Option.some.injEq, Addr.mk.injEq, and_true] at h1
       obtain ⟨rfl, rfl⟩ := h1
       rw [hx]; exact h2
      have hcy := own_cell HW.out (j := off + k) (by omega)
      have hfy := HW.out.frozenAt (off + k)
      rw [← hy] at hcy
      have XX := Lib.hid hx
      have YY := Lib.hid hy
      clear hx hy
      obtain ⟨p2, hp2⟩ : ∃ p2, p2 = qq * x := ⟨_, rfl⟩
      have hp21 : p2 ≤ 999999999 * 999999999 := by rw [hp2]; exact Nat.mul_le_mul (by omega) (by omega)
      have hp22 : ((qq : Int) * x) = p2 := by rw [hp2]; exact (Int.natCast_mul _ _).symm
      have PP2 := Lib.hid hp2
      clear hp2
      by_cases hy2 : y < (p2 + cc) % 1000000000
      ·have d4 : decide ((y : Int) < ((p2 : Int) + cc) % 1000000000) = true := by simp; omega
       go_wp2_with fail
       rw [show (y : Int) + 1000000000 = ((y + 1000000000 : Nat) : Int) by omega, show ((y + 1000000000 : Nat) : Int) - ((p2 : Int) + cc) % 1000000000 = ((y + 1000000000 - (p2 + cc) % 1000000000 : Nat) : Int) by omega, show ((p2 : Int) + cc) / 1000000000 + 1 = (((p2 + cc) / 1000000000 + 1 : Nat) : Int) by omega]
       have hs1 := own_set (off + k) (y + 1000000000) HW.out HG.out
       have hs2 := own_set (off + k) (y + 1000000000 - (p2 + cc) % 1000000000) hs1.1 hs1.2
       rw [List.set_set] at hs2
       refine ⟨⟨k + 1, _, _, by omega, by go_num, rfl, ?_, hs2.1, hs2.2⟩, by simp only [intOf]; omega⟩
       exact HS.out.step (by have := HFL.out; omega) XX.out YY.out (by omega) (by omega) (by rw [← PP2.out]; omega)
      ·have d4 : decide ((y : Int) < ((p2 : Int) + cc) % 1000000000) = false := by simp; omega
       go_wp2_with fail
       rw [show (y : Int) - ((p2 : Int) + cc) % 1000000000 = ((y - (p2 + cc) % 1000000000 : Nat) : Int) by omega, show ((p2 : Int) + cc) / 1000000000 = (((p2 + cc) / 1000000000 : Nat) : Int) by omega]
       have hs2 := own_set (off + k) (y - (p2 + cc) % 1000000000) HW.out HG.out
       refine ⟨⟨k + 1, _, _, by omega, by go_num, rfl, ?_, hs2.1, hs2.2⟩, by simp only [intOf]; omega⟩
       exact HS.out.step (by have := HFL.out; omega) XX.out YY.out (by omega) (by omega) (by rw [← PP2.out]; omega)
     ·obtain rfl : k = n + 2 := by omega
      have hcy := own_cell HW.out (j := off + (n + 2)) (by omega)
      have hfy := HW.out.frozenAt (off + (n + 2))
      rw [HS.out.same _ (Or.inr (Nat.le_refl _)), ← E0.out] at hcy
      have hVpos := HP.out.pos
      by_cases hen : cc ≤ u0
      ·have hd := step_enough HM.out (by rw [HFL.out]; exact hN) HS.out LF.out HF.out.2.1 hVpos (by rw [← E0.out]; exact hen)
       rw [← E0.out] at hd
       have HD := Lib.hid hd
       clear hd hVpos
       go_wp2_with fail
       go_ret
       rw [show (u0 : Int) - cc = ((u0 - cc : Nat) : Int) by omega]
       have hs2 := own_set (off + (n + 2)) (u0 - cc) HW.out HG.out
       exact ⟨_, by rw [← HD.out.1]; rfl, HD.out.2, hs2.1, hs2.2⟩
      ·have hlow := HS.out.low
       have LO := Lib.hid hlow
       have VP := Lib.hid hVpos
       clear hlow hVpos hcy hfy
       obtain ⟨wo, hwo⟩ : ∃ wo : World, wo = wr := ⟨_, rfl⟩
       subst hwo
       have hcy := own_cell HW.out (j := off + (n + 2)) (by omega)
       rw [HS.out.same _ (Or.inr (Nat.le_refl _)), ← E0.out] at hcy
       go_wp2_with fail
       go_loopw [14, 132] (BackRel w base g N o m off (n + 2)) (fun _ i _ => (n + 2) - (intOf i).toNat)
       case atStart => exact ⟨0, o, 0, by omega, rfl, rfl, BackSt.start _ _ _ LO.out, HW.out, HG.out⟩
       case round =>
        obtain ⟨k, o2, cb2, hk, rfl, rfl, hst2, hown2, hgr2⟩ := hrel
        have HS2 := Lib.hid hst2
        have HW2 := Lib.hid hown2
        have HG2 := Lib.hid hgr2
        have hcb2 := hst2.carry
        have hlo2 : N ≤ o2.length := by have := hst2.len; omega
        clear hst2 hown2 hgr2 hcy
        by_cases hlt : k < n + 2
        ·obtain ⟨x, hx⟩ : ∃ x, x = m.getD k 0 := ⟨_, rfl⟩
         obtain ⟨y, hy⟩ : ∃ y, y = o2.getD (off + k) 0 := ⟨_, rfl⟩
         have hx1 : x < 1000000000 := by rw [hx]; exact LM.out.getD k
         have hy1 : y < 1000000000 := by rw [hy]; exact HS2.out.low.getD _
         have hcx : wr.cell? ⟨bv, ov + k, none⟩ = some (.int .u64 (x : Int)) := by
          obtain ⟨b', off', h1, h2⟩ := (HV.out.grown HG2.out).1.at (j := k) (by rw [HM.out]; exact hlt)
          simp only [Option.some.injEq, Addr.mk.injEq, and_true] at h1
          obtain ⟨rfl, rfl⟩ := h1
          rw [hx]; exact h2
         have hcy := own_cell HW2.out (j := off + k) (by omega)
         have hfy := HW2.out.frozenAt (off + k)
         rw [← hy] at hcy
         have XX := Lib.hid hx
         have YY := Lib.hid hy
         clear hx hy
         go_wp2_with fail
         rw [show ((y : Int) + x + cb2) % 1000000000 = (((y + x + cb2) % 1000000000 : Nat) : Int) by omega, show ((y : Int) + x + cb2) / 1000000000 = (((y + x + cb2) / 1000000000 : Nat) : Int) by omega]
         have hs2 := own_set (off + k) ((y + x + cb2) % 1000000000) HW2.out HG2.out
         refine ⟨⟨k + 1, _, _, by omega, by go_num, rfl, ?_, hs2.1, hs2.2⟩, by simp only [intOf]; omega⟩
         exact HS2.out.step LM.out (by have := HFL.out; have := HS.out.len; omega) XX.out YY.out
        ·obtain rfl : k = n + 2 := by omega
         have hb := step_back HM.out (by rw [HFL.out]; exact hN) HS.out HF.out.2.2 VP.out (by have := val_lt LM.out; rw [HM.out] at this; exact this) (by rw [← E0.out]; omega) HS2.out
         rw [← E0.out] at hb
         have hsum := hb.2.1
         have hcy := own_cell HW2.out (j := off + (n + 2)) (by omega)
         have hfy := HW2.out.frozenAt (off + (n + 2))
         rw [HS2.out.same _ (Or.inr (Nat.le_refl _)), HS.out.same _ (Or.inr (Nat.le_refl _)), ← E0.out] at hcy
         have hq1 : 1 ≤ qq := by rw [hb.1]; exact Nat.le_add_left 1 _
         have HB := Lib.hid hb
         have HSUM := Lib.hid hsum
         clear hb hsum
         go_wp2_with fail
         go_ret
         rw [wrap_back HSUM.out]
         have hs2 := own_set (off + (n + 2)) 0 HW2.out HG2.out
         refine ⟨_, ?_, HB.out.2.2, hs2.1, hs2.2⟩
         refine congrArg (fun z : Int => Ending.returned (.int .u64 z)) (a₁ := (qq : Int) - 1) ?_
         have := HB.out.1
         omega
end Go.Proofs.YtpdboaedoimahaaGreatDoor
end
section
namespace Go.Proofs.YtpdboaedoimahaaGreatDoor
structure Norm (n k f : Nat) : Prop where
 len : nl n = k + 2
 pos : 1 ≤ f
 low : f < 1000000000
 vlen : nl (n * f) = k + 2
 vtop : 500000000 ≤ (limbs (n * f)).getD (k + 1) 0
 fle : f * 1000000000 ^ (k + 1) ≤ n * f
theorem val_top (n k : Nat) (h : nl n = k + 2) : n = val ((limbs n).take (k + 1)) + 1000000000 ^ (k + 1) * (limbs n).getD (k + 1) 0 := by
 have := val_take_succ (limbs n) (k + 1)
 rw [List.take_of_length_le (show (limbs n).length ≤ k + 1 + 1 from Nat.le_of_eq h), val_limbs] at this
 exact this
theorem top_pos (n k : Nat) (h : nl n = k + 2) : 1 ≤ (limbs n).getD (k + 1) 0 := by
 have hne : n ≠ 0 := by intro e; rw [e, nl_zero] at h; omega
 have := getLast_limbs hne
 have hl : (limbs n).length = k + 2 := h
 rw [hl] at this
 simp only [Nat.add_sub_cancel, show k + 2 - 1 = k + 1 from rfl] at this
 omega
theorem Norm.make {n k : Nat} (h : nl n = k + 2) : Norm n k (1000000000 / ((limbs n).getD (k + 1) 0 + 1)) := by
 have h1 := top_pos n k h
 have h2 := (low_limbs n).getD (k + 1)
 have hn := val_top n k h
 have hlt := val_take_lt (low_limbs n) (k + 1)
 generalize (limbs n).getD (k + 1) 0 = b at *
 have hdm := Nat.div_add_mod 1000000000 (b + 1)
 have hml := Nat.mod_lt 1000000000 (show 0 < b + 1 by omega)
 generalize hf : 1000000000 / (b + 1) = f at *
 generalize 1000000000 % (b + 1) = r at *
 have hf1 : 1 ≤ f := by
  rcases Nat.eq_zero_or_pos f with h0 | h0
  ·rw [h0, Nat.mul_zero] at hdm; omega
  ·exact h0
 have hf2 : f < 1000000000 := by
  have : (1 + 1) * f ≤ (b + 1) * f := Nat.mul_le_mul_right _ (by omega)
  omega
 have hbf : b * f + f + r = 1000000000 := by rw [Nat.add_mul, Nat.one_mul] at hdm; exact hdm
 have hbf2 : b + f ≤ b * f + 1 := by
  obtain ⟨x, rfl⟩ : ∃ x, b = x + 1 := ⟨b - 1, by omega⟩
  obtain ⟨y, rfl⟩ : ∃ y, f = y + 1 := ⟨f - 1, by omega⟩
  rw [Nat.add_mul, Nat.mul_add, Nat.one_mul, Nat.mul_one]
  have : 0 ≤ x * y := Nat.zero_le _
  omega
 have hbig : 500000000 ≤ b * f := by omega
 generalize hx : val ((limbs n).take (k + 1)) = x at *
 generalize hP : 1000000000 ^ (k + 1) = P at *
 have hPn : P ≤ n := by
  have : P * 1 ≤ P * b := Nat.mul_le_mul_left _ h1
  omega
 have hup : n * f < P * 1000000000 := by
  have e1 : n < P * (b + 1) := by rw [Nat.mul_add, Nat.mul_one]; omega
  have e2 : n * f < P * (b + 1) * f := Nat.mul_lt_mul_of_pos_right e1 (by omega)
  have e3 : P * (b + 1) * f ≤ P * 1000000000 := by rw [Nat.mul_assoc]; exact Nat.mul_le_mul_left _ (by omega)
  omega
 have hlo : P ≤ n * f := by
  have : n * 1 ≤ n * f := Nat.mul_le_mul_left _ hf1
  omega
 have hvl : nl (n * f) = k + 2 := by
  refine Nat.le_antisymm (nl_le_of_lt (by rw [show k + 2 = k + 1 + 1 from rfl, Nat.pow_succ, hP]; exact hup)) ?_
  rcases Nat.lt_or_ge (nl (n * f)) (k + 2) with h3 | h3
  ·have h4 := lt_pow_nl (n * f)
   have h5 : 1000000000 ^ nl (n * f) ≤ 1000000000 ^ (k + 1) := Nat.pow_le_pow_right (by omega) (by omega)
   rw [hP] at h5; omega
  ·exact h3
 refine ⟨h, hf1, hf2, hvl, ?_, ?_⟩
 ·have hv := val_top (n * f) k hvl
  have hvt := val_take_lt (low_limbs (n * f)) (k + 1)
  rw [hP] at hv hvt
  generalize (limbs (n * f)).getD (k + 1) 0 = t at *
  have e1 : P * (b * f) ≤ n * f := by
   rw [← Nat.mul_assoc]; exact Nat.mul_le_mul_right _ (by omega)
  have e2 : n * f < P * (t + 1) := by rw [Nat.mul_add, Nat.mul_one]; omega
  have e3 : P * (b * f) < P * (t + 1) := by omega
  have := Nat.lt_of_mul_lt_mul_left e3
  omega
 ·rw [Nat.mul_comm n]; exact Nat.mul_le_mul_left _ (by rw [hP]; exact hPn)
theorem DivSt.start {m n k f M : Nat} (h : Norm n k f) (hM : nl m + 1 = M + (k + 2)) :
  DivSt (m * f) (n * f) (k + 2) M M (limbs (m * f) ++ List.replicate (M + (k + 2) - nl (m * f)) 0) (List.replicate M 0) := by
 have hl : nl (m * f) ≤ M + (k + 2) := by
  rw [← hM]
  refine Nat.le_trans (nl_mul m f) (Nat.add_le_add_left ?_ _)
  exact nl_le_of_lt (by simpa using h.low)
 have hlen : (limbs (m * f) ++ List.replicate (M + (k + 2) - nl (m * f)) 0).length = M + (k + 2) := by
  rw [List.length_append, List.length_replicate]; unfold nl at *; omega
 have hval : val (limbs (m * f) ++ List.replicate (M + (k + 2) - nl (m * f)) 0) = m * f := by
  rw [val_append, val_zeros, val_limbs]; omega
 refine ⟨hlen, by simp, (low_limbs _).append (Low.zeros _), Low.zeros _, ?_, ?_, ?_⟩
 ·have hs := val_split (limbs (m * f) ++ List.replicate (M + (k + 2) - nl (m * f)) 0) M (by omega)
  rw [hval] at hs
  generalize val ((limbs (m * f) ++ List.replicate (M + (k + 2) - nl (m * f)) 0).drop M) = y at *
  generalize val ((limbs (m * f) ++ List.replicate (M + (k + 2) - nl (m * f)) 0).take M) = x at *
  have hm := lt_pow_nl m
  rw [show nl m = M + (k + 1) by omega, Nat.pow_add] at hm
  have hfle := h.fle
  have hpos := h.pos
  generalize 1000000000 ^ (k + 1) = P at *
  generalize 1000000000 ^ M = Q at *
  have e1 : m * f < Q * P * f := Nat.mul_lt_mul_of_pos_right hm (by omega)
  have e2 : Q * P * f = Q * (f * P) := by rw [Nat.mul_assoc, Nat.mul_comm P]
  have e3 : Q * y < Q * (f * P) := by omega
  have := Nat.lt_of_mul_lt_mul_left e3
  omega
 ·rw [hval, List.drop_of_length_le (by simp)]; simp [val]
 ·intro j hj
  have : (limbs (m * f) ++ List.replicate (M + (k + 2) - nl (m * f)) 0)[j]? = none := List.getElem?_eq_none (by omega)
  rw [List.getD_eq_getElem?_getD, this]; rfl
theorem div_norm {m n f : Nat} (hf : 0 < f) : m * f / (n * f) = m / n ∧ m * f % (n * f) = (m % n) * f :=
 ⟨Nat.mul_div_mul_right m n hf, Nat.mul_mod_mul_right f m n⟩
end Go.Proofs.YtpdboaedoimahaaGreatDoor
end
