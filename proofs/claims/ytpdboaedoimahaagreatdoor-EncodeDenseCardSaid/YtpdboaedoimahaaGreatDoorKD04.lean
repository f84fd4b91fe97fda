/- Joined out of parts of one proof by a program: contracts of the functions that the statement reaches, and the plain facts behind them. -/
import Derived.Test.YtpdboaedoimahaaGreatDoorKD03
import Derived.IntWalk
set_option linter.unusedVariables false
set_option linter.unusedSimpArgs false
set_option linter.unusedSectionVars false
section
set_option linter.unusedSectionVars false
set_option linter.unusedSimpArgs false
namespace Go.Proofs.YtpdboaedoimahaaGreatDoor
variable [Flag]
open Go.RowKit
section rules
variable {P : Program} [Mixed P] {fn : Func} {Post : Spec} {st : List KI × S} {u m : PH}
theorem view_slice {env : Operand → Value} {o : Op} {sz : Option Nat} {x : Value} {lo hi mx : Option Value} (h : viewOp P env o = .slice sz x lo hi mx) : ∃ t X L H M, o = .slice t X L H M ∧ env X = x ∧ L.map env = lo ∧ H.map env = hi ∧ M.map env = mx ∧ elemSz P t = sz := by
 cases o <;> simp only [viewOp] at h <;> try cases h
 any_goals ((repeat' split at h) <;> cases h; done)
 ·exact ⟨_, _, _, _, _, rfl, rfl, rfl, rfl, rfl, rfl⟩
theorem addr_map_zero (a : Option Addr) : a.map (·.add 0) = a := by cases a <;> rfl
theorem G.sliceTo (sz : Nat) (a : Option Addr) (n c k : Nat) (h : stopV P (adv P st) = .slice (some sz) (.slice a n c) none (some (.int .i64 (k : Int))) none) (hk : k ≤ c)
  (g : G P fn Post (nx (adv P st) (.slice a k c)) u m) : G P fn Post st u m := by
 refine G.ask h (by simp) (fun env o hview w hp => ?_) g
 obtain ⟨t, X, L, H, M, e1, e2, e3, e4, e5, hsz⟩ := view_slice hview
 obtain ⟨dst, opp, type, pos, after, guard⟩ := o
 simp only at e1; subst e1
 unfold elemSz at hsz
 split at hsz
 ·rename_i e hu
  have h1 : (0 : Int) ≤ k ∧ (k : Int) ≤ c := by omega
  simp only [execOp, e2, e3, e4, e5]
  simp only [Instr.sliceAt, Sem.run_bind, run_underlying hu, Result.andThen_ok, Instr.slice, Instr.sliceBounds, Instr.sliceBound, asIntOf, Sem.run_pure, if_true, Option.isSome, Sem.run_ite, run_sizeOf' hsz, h1, and_self, Int.toNat_natCast, Nat.zero_mul, addr_map_zero, Nat.sub_zero]
  simp
 ·cases hsz
theorem G.sliceFrom (b off n c k sz : Nat) (h : stopV P (adv P st) = .slice (some sz) (.slice (some ⟨b, off, none⟩) n c) (some (.int .i64 (k : Int))) none none) (hk : k ≤ n) (hc : k < c)
  (g : G P fn Post (nx (adv P st) (.slice (some ⟨b, off + k * sz, none⟩) (n - k) (c - k))) u m) : G P fn Post st u m := by
 refine G.ask h (by simp) (fun env o hview w hp => ?_) g
 obtain ⟨t, X, L, H, M, e1, e2, e3, e4, e5, hsz⟩ := view_slice hview
 obtain ⟨dst, opp, type, pos, after, guard⟩ := o
 simp only at e1; subst e1
 unfold elemSz at hsz
 split at hsz
 ·rename_i e hu
  have h1 : (0 : Int) ≤ k ∧ (k : Int) ≤ n := by omega
  have h2 : ¬ (c = k) := by omega
  simp only [execOp, e2, e3, e4, e5]
  simp only [Instr.sliceAt, Sem.run_bind, run_underlying hu, Result.andThen_ok, Instr.slice, Instr.sliceBounds, Instr.sliceBound, asIntOf, Sem.run_pure, if_true, Option.isSome, Sem.run_ite, run_sizeOf' hsz, h1, and_self, Int.toNat_natCast, h2, if_false, Option.map_some, addr_add]
 ·cases hsz
theorem G.quo (x y z : Int) (h : stopV P (adv P st) = .bin .quo (.int .i64 x) (.int .i64 y)) (hx : 0 ≤ x) (hx2 : x ≤ 9223372036854775807) (hy : 0 < y) (hz : x / y = z)
  (k : G P fn Post (nx (adv P st) (.int .i64 z)) u m) : G P fn Post st u m := by
 refine G.bin _ h guard_int (fun t w => ?_) k
 have h1 : x.tdiv y = z := by rw [Int.tdiv_eq_ediv_of_nonneg hx]; exact hz
 have h2 : 0 ≤ z := by rw [← hz]; exact Int.ediv_nonneg hx (by omega)
 have h3 : z ≤ x := by rw [← hz]; exact Int.ediv_le_self _ hx
 have h4 : ¬ y = 0 := by omega
 simp [binOp, Op.intDiv, h4, h1, i64_wrap (z := z) (by omega) (by omega)]
theorem G.rem (x y z : Int) (h : stopV P (adv P st) = .bin .rem (.int .i64 x) (.int .i64 y)) (hx : 0 ≤ x) (_hx2 : x ≤ 9223372036854775807) (hy : 0 < y) (hz : x % y = z)
  (k : G P fn Post (nx (adv P st) (.int .i64 z)) u m) : G P fn Post st u m := by
 refine G.bin _ h guard_int (fun t w => ?_) k
 have h1 : x.tmod y = z := by rw [Int.tmod_eq_emod_of_nonneg hx]; exact hz
 have h4 : ¬ y = 0 := by omega
 have h2 : 0 ≤ z := by rw [← hz]; exact Int.emod_nonneg _ h4
 have h3 : z ≤ x := by rw [← hz]; have := Int.mul_ediv_add_emod x y; have h5 := Int.mul_nonneg (Int.le_of_lt hy) (Int.ediv_nonneg hx (Int.le_of_lt hy)); omega
 simp [binOp, Op.intDiv, h4, h1, i64_wrap (z := z) (by omega) (by omega)]
theorem guard_bool {op : BinOp} {x y : Bool} (t : TypeId) (X Y : Operand) (w : World) : (eqGuard op t X Y (.bool x) (.bool y)).run P w = .ok () w := by
 unfold eqGuard; split <;> simp
theorem run_eqB {t : TypeId} (ht : P.underlying t = some .bool) (x y : Bool) (w : World) : (Op.equal t (.bool x) (.bool y)).run P w = .ok (x == y) w := by
 unfold Op.equal
 rw [show Op.maxDepth = 9999 + 1 from rfl, Op.equalIn]
 simp [run_underlying ht]
theorem G.eqB (x y : Bool) (h : stopV P (adv P st) = .binT .eql (some .bool) (.bool x) (.bool y)) (k : G P fn Post (nx (adv P st) (.bool (x == y))) u m) : G P fn Post st u m := by
 refine G.ask h (by simp) (fun env o hview w _ => ?_) k
 obtain ⟨t, X, Y, yt, e, e1, e2, e3⟩ := view_binT hview
 obtain ⟨dst, opp, type, pos, after, guard⟩ := o
 simp only at e; subst e
 simp [execOp, e1, e2, guard_bool, binOp, run_eqB e3]
theorem G.neB (x y : Bool) (h : stopV P (adv P st) = .binT .neq (some .bool) (.bool x) (.bool y)) (k : G P fn Post (nx (adv P st) (.bool (!(x == y)))) u m) : G P fn Post st u m := by
 refine G.ask h (by simp) (fun env o hview w _ => ?_) k
 obtain ⟨t, X, Y, yt, e, e1, e2, e3⟩ := view_binT hview
 obtain ⟨dst, opp, type, pos, after, guard⟩ := o
 simp only at e; subst e
 simp [execOp, e1, e2, guard_bool, binOp, run_eqB e3]
def intsV (l : List Nat) : List Value := l.map fun (n : Nat) => Value.int .i64 (n : Int)
def IntsP (u : PH) (v : Value) (l : List Nat) : Prop := ListP u v 1 (intsV l)
theorem intsV_length (l : List Nat) : (intsV l).length = l.length := by simp [intsV]
theorem IntsP.mono {u u' : PH} {v : Value} {l : List Nat} (h : IntsP u v l) (hl : PH.le u u') : IntsP u' v l := ListP.mono h hl
theorem IntsP.opn {u : PH} {v : Value} {l : List Nat} (h : IntsP u v l) : ∃ a c, v = .slice a l.length c ∧ l.length ≤ c := by
 obtain ⟨a, c, h1, h2, _⟩ := h
 rw [intsV_length] at h1 h2
 exact ⟨a, c, h1, h2⟩
theorem IntsP.len {u : PH} {a : Option Addr} {n c : Nat} {l : List Nat} (h : IntsP u (.slice a n c) l) : n = l.length ∧ l.length ≤ c := by
 obtain ⟨a', c', h1, h2⟩ := h.opn
 simp at h1; obtain ⟨_, rfl, rfl⟩ := h1; exact ⟨rfl, h2⟩
theorem IntsP.at {u : PH} {a : Option Addr} {n c : Nat} {l : List Nat} (h : IntsP u (.slice a n c) l) {j : Nat} (hj : j < l.length) : ∃ b off, a = some ⟨b, off, none⟩ ∧ ElP u b (off + j * 1) (.int .i64 (l.getD j 0 : Nat)) := by
 obtain ⟨a', c', h1, h2, h3⟩ := h
 simp at h1; obtain ⟨rfl, _, rfl⟩ := h1
 exact h3 j _ (by simp [intsV, hj])
theorem IntsP.take {u : PH} {a : Option Addr} {n c : Nat} {l : List Nat} (h : IntsP u (.slice a n c) l) (k : Nat) (hk : k ≤ l.length) : IntsP u (.slice a k c) (l.take k) := by
 obtain ⟨a', c', h1, h2, h3⟩ := h
 simp at h1; obtain ⟨rfl, _, rfl⟩ := h1
 rw [intsV_length] at h2
 refine ⟨a, c, by simp [intsV]; omega, by simp [intsV]; omega, fun j e hj => ?_⟩
 refine h3 j e ?_
 simp only [intsV, List.map_take, List.getElem?_take] at hj ⊢
 split at hj
 ·exact hj
 ·cases hj
theorem view_blt {env : Operand → Value} {o : Op} {b : Builtin} {ts : List TypeId} {xs : List Value} (h : viewOp P env o = .blt b ts xs) : ∃ c, o = .call c ∧ c.callee = .builtin b ∧ c.argTypes = ts.toArray ∧ (c.args.map env) = xs.toArray := by
 cases o <;> simp only [viewOp] at h <;> try cases h
 ·split at h <;> cases h
 split at h
 ·split at h <;> cases h
 ·rename_i c b' hc
  split at h
  ·split at h <;> cases h
  ·simp only [Stop.blt.injEq] at h
   obtain ⟨rfl, rfl, rfl⟩ := h
   exact ⟨_, rfl, hc, by simp, by apply Array.ext'; simp⟩
 ·cases h
theorem G.minI (ts : List TypeId) (x y z : Int) (h : stopV P (adv P st) = .blt .min ts [.int .i64 x, .int .i64 y]) (hz : min x y = z) (k : G P fn Post (nx (adv P st) (.int .i64 z)) u m) : G P fn Post st u m := by
 refine G.ask h (by simp) (fun env o hview w _ => ?_) k
 obtain ⟨c, e1, e2, e3, e4⟩ := view_blt hview
 obtain ⟨dst, opp, type, pos, after, guard⟩ := o
 simp only at e1; subst e1
 subst hz
 have hm : (if y < x then y else x) = min x y := by split <;> omega
 simp [execOp, resolve, e2, invoke, builtin, e4, Builtin.min_, Builtin.min2, hm]
theorem G.maxI (ts : List TypeId) (x y z : Int) (h : stopV P (adv P st) = .blt .max ts [.int .i64 x, .int .i64 y]) (hz : max x y = z) (k : G P fn Post (nx (adv P st) (.int .i64 z)) u m) : G P fn Post st u m := by
 refine G.ask h (by simp) (fun env o hview w _ => ?_) k
 obtain ⟨c, e1, e2, e3, e4⟩ := view_blt hview
 obtain ⟨dst, opp, type, pos, after, guard⟩ := o
 simp only at e1; subst e1
 subst hz
 have hm : (if x < y then y else x) = max x y := by split <;> omega
 simp [execOp, resolve, e2, invoke, builtin, e4, Builtin.max_, Builtin.max2, hm]
theorem G.appendNil (e : TypeId) (sz bt : Nat) (z : Value) (a : Option Addr) (c : Nat) (h : stopV P (adv P st) = .app (some (e, sz, bt, z)) true [.slice none 0 0, .slice a 0 c])
  (k : G P fn Post (nx (adv P st) (.slice none 0 0)) u m) : G P fn Post st u m := by
 refine G.big (K := fun v' u' m' => u' = u ∧ m' = m ∧ v' = .slice none 0 0) h (by simp) (fun env op hv => (view_app (P := P) (o := ⟨none, op, 0, "", #[], none⟩) hv).2.1) (.inl fun v u' m' hk => by rw [hk.2.1]; exact PH.le_refl _) (fun env o hview w hgd => ?_) (fun v' u' m' _ hk => ?_)
 ·obtain ⟨_, _, t, hi, hex⟩ := view_app (P := P) hview
  obtain ⟨hu, i, hi1, hi2, hi3, hi4⟩ := elInfo_spec hi
  have hr : (Builtin.append_ #[t, t] o.type #[.slice none 0 0, .slice a 0 c]).run P w = .ok (.slice none 0 0) w := by
   cases a <;> simp [Builtin.append_, run_underlying hu, sizeOf, typeInfo, hi1, Builtin.lenOf, Builtin.firstCells, loadCells, loadCellsFrom]
  exact does_value (by rw [hex, hr]; rfl) ⟨u, m, hgd, Grown.refl _ _ _, rfl, rfl, rfl⟩
 ·obtain ⟨rfl, rfl, rfl⟩ := hk
  exact k
def intsZ (l : List Int) : List Value := l.map fun (n : Int) => Value.int .i64 n
theorem intsZ_length (l : List Int) : (intsZ l).length = l.length := by simp [intsZ]
theorem intsZ_ok (l : List Int) : ElsOK 1 (intsZ l) := by
 intro e he
 simp only [intsZ, List.mem_map] at he
 obtain ⟨n, _, rfl⟩ := he
 simp [Value.cells, cellOK]
theorem intsZ_set (l : List Int) (j : Nat) (d : Int) : (intsZ l).set j (.int .i64 d) = intsZ (l.set j d) := by simp [intsZ, List.map_set]
theorem intsZ_nat (l : List Nat) : intsZ (l.map fun (n : Nat) => (n : Int)) = intsV l := by simp [intsZ, intsV]
theorem intsV_ok (l : List Nat) : ElsOK 1 (intsV l) := by rw [← intsZ_nat]; exact intsZ_ok _
theorem IntsP.els {u : PH} {b off n c : Nat} {l : List Nat} (h : IntsP u (.slice (some ⟨b, off, none⟩) n c) l) : ElsP u b off 1 (intsV l) := by
 obtain ⟨a', c', h1, h2, h3⟩ := h
 simp at h1; obtain ⟨rfl, _, rfl⟩ := h1
 intro j e hj
 obtain ⟨b', off', e1, e2⟩ := h3 j e hj
 simp at e1; obtain ⟨rfl, rfl⟩ := e1; exact e2
end rules
end Go.Proofs.YtpdboaedoimahaaGreatDoor
end
section
set_option linter.unusedSectionVars false
set_option linter.unusedVariables false
namespace Go.Proofs.YtpdboaedoimahaaGreatDoor
open Go.RowKit
theorem bigTrim0 {u : PH} {b : Bool} {a : Option Addr} {n c : Nat} {l : List Nat} (h : IntsP u (.slice a n c) l) (hl : l.length ≤ 1000000000000000000) :
  Fn0 Tryz.prog 172 [.agg #[.bool b, .slice a n c]] u fun v _ => v = .agg #[.bool (b && decide (0 < trimTo l l.length)), .slice a (trimTo l l.length) c] := by
 obtain ⟨rfl, hc⟩ := h.len
 refine Fn0.of Tryz.func172 (by kernel_rfl) (by kernel_rfl) ?_
 refine G.loop (ι := Nat) (fun _ => [(1, .p 0 0), (2, .p 1 0)]) (fun k => [(0, ⟨122, [.v (.bool b), .v (.slice a k c)]⟩), (1, ⟨122, [.v (.bool false), .v (.slice none 0 0)]⟩)])
  (fun k _ m => k ≤ l.length ∧ trimTo l l.length = trimTo l k ∧ m = PH.mt) id l.length (by kernel_rfl) (fun _ => by kernel_rfl) ⟨by kernel_rfl, by kernel_rfl, by kernel_rfl⟩ ⟨Nat.le_refl _, rfl, rfl⟩ ?_
 rintro J k hJ u' m' hle ⟨hk, ht, rfl⟩
 rw [ht]
 rcases k with _ | k
 ·refine G.gtrF ((0 : Nat) : Int) 0 (by kernel_rfl) (by omega) ?_
  refine G.eqlT ((0 : Nat) : Int) 0 (by kernel_rfl) rfl ?_
  exact G.ret (.agg #[.bool false, .slice a 0 c]) (by kernel_rfl) ⟨rfl, by simp [trimTo]⟩
 ·refine G.gtrT ((k + 1 : Nat) : Int) 0 (by kernel_rfl) (by omega) ?_
  refine G.sub ((k + 1 : Nat) : Int) 1 (k : Int) (by kernel_rfl) (by omega) (by omega) (by omega) ?_
  obtain ⟨bb, off, rfl, he⟩ := (h.mono hle).at (j := k) (by omega)
  refine G.addr bb off (k + 1) c k 1 (by kernel_rfl) (by omega) ?_
  refine G.loadU none bb (off + k * 1) (.int .i64 (l.getD k 0 : Nat)) (by kernel_rfl) (by kernel_rfl) he ?_
  by_cases h0 : l.getD k 0 = 0
  ·refine G.eqlT ((l.getD k 0 : Nat) : Int) 0 (by kernel_rfl) (by omega) ?_
   refine G.sub ((k + 1 : Nat) : Int) 1 (k : Int) (by kernel_rfl) (by omega) (by omega) (by omega) ?_
   refine G.sliceTo 1 (some ⟨bb, off, none⟩) (k + 1) c k (by kernel_rfl) (by omega) ?_
   exact G.back (by kernel_rfl) (hJ k _ _ _ ⟨by kernel_rfl, by kernel_rfl, by kernel_rfl⟩ hle ⟨by omega, by rw [ht]; simp only [trimTo, if_pos h0], rfl⟩ (by simp))
  ·refine G.eqlF ((l.getD k 0 : Nat) : Int) 0 (by kernel_rfl) (by omega) ?_
   refine G.eqlF ((k + 1 : Nat) : Int) 0 (by kernel_rfl) (by omega) ?_
   exact G.ret (.agg #[.bool b, .slice (some ⟨bb, off, none⟩) (k + 1) c]) (by kernel_rfl) ⟨rfl, by simp only [trimTo, if_neg h0]; simp⟩
end Go.Proofs.YtpdboaedoimahaaGreatDoor
end
section
set_option linter.unusedSectionVars false
set_option linter.unusedVariables false
namespace Go.Proofs.YtpdboaedoimahaaGreatDoor
open Go.RowKit
theorem intsV_snoc (l : List Nat) (n : Nat) : intsV l ++ [.int .i64 (n : Int)] = intsV (l ++ [n]) := by simp [intsV]
theorem bigSize0 {u : PH} {va vb : Value} {m n : Nat} (ha : IntsP u va (limbs m)) (hb : IntsP u vb (limbs n)) (sa : nl m ≤ 1000000000000000000) (sb : nl n ≤ 1000000000000000000) :
  Fn0 Tryz.prog 202 [va, vb] u fun v _ => v = .int .i64 (sgn ((m : Int) - n)) := by
 obtain ⟨a, ca, rfl, hca⟩ := ha.opn
 obtain ⟨b, cb, rfl, hcb⟩ := hb.opn
 have sa' : (limbs m).length ≤ 1000000000000000000 := sa
 have sb' : (limbs n).length ≤ 1000000000000000000 := sb
 refine Fn0.of Tryz.func202 (by kernel_rfl) (by kernel_rfl) ?_
 by_cases hne : (limbs m).length = (limbs n).length
 ·refine G.neqF ((limbs m).length : Int) ((limbs n).length : Int) (by kernel_rfl) (by omega) ?_
  refine G.sub ((limbs m).length : Int) 1 (((limbs m).length : Int) - 1) (by kernel_rfl) rfl (by omega) (by omega) ?_
  refine G.loop (ι := Int) (fun z => [(0, .v (.slice a (limbs m).length ca)), (1, .v (.slice b (limbs n).length cb)), (5, .v (.int .i64 z))]) (fun _ => [])
   (fun z _ m' => -1 ≤ z ∧ z < (limbs m).length ∧ (limbs m).drop (z + 1).toNat = (limbs n).drop (z + 1).toNat ∧ m' = PH.mt) (fun z => (z + 1).toNat) (((limbs m).length : Int) - 1) (by kernel_rfl) (fun _ => by kernel_rfl) ⟨by kernel_rfl, by kernel_rfl, by kernel_rfl⟩
   ⟨by omega, by omega, by rw [List.drop_of_length_le (by omega), List.drop_of_length_le (by omega)], rfl⟩ ?_
  rintro J z hJ u' m' hle ⟨h1, h2, h3, rfl⟩
  by_cases hz : 0 ≤ z
  ·obtain ⟨k, rfl⟩ := Int.eq_ofNat_of_zero_le hz
   have hk : k < (limbs m).length := by omega
   rw [show ((k : Int) + 1).toNat = k + 1 by omega] at h3
   obtain ⟨ba, oa, rfl, ea⟩ := (ha.mono hle).at (j := k) hk
   obtain ⟨bb, ob, rfl, eb⟩ := (hb.mono hle).at (j := k) (by omega)
   refine G.geqT (k : Int) 0 (by kernel_rfl) (by omega) ?_
   refine G.addr ba oa (limbs m).length ca k 1 (by kernel_rfl) hk ?_
   refine G.loadU none ba (oa + k * 1) (.int .i64 ((limbs m).getD k 0 : Nat)) (by kernel_rfl) (by kernel_rfl) ea ?_
   refine G.addr bb ob (limbs n).length cb k 1 (by kernel_rfl) (by omega) ?_
   refine G.loadU none bb (ob + k * 1) (.int .i64 ((limbs n).getD k 0 : Nat)) (by kernel_rfl) (by kernel_rfl) eb ?_
   rcases Nat.lt_trichotomy ((limbs m).getD k 0) ((limbs n).getD k 0) with hlt | heq | hgt
   ·refine G.lssT ((limbs m).getD k 0 : Nat) ((limbs n).getD k 0 : Nat) (by kernel_rfl) (by omega) ?_
    have := val_lt_of_limb hne hk (low_limbs _) h3 hlt
    rw [val_limbs, val_limbs] at this
    exact G.ret (.int .i64 (-1)) (by kernel_rfl) ⟨rfl, by rw [sgn_neg (by omega)]⟩
   ·refine G.lssF ((limbs m).getD k 0 : Nat) ((limbs n).getD k 0 : Nat) (by kernel_rfl) (by omega) ?_
    refine G.addr ba oa (limbs m).length ca k 1 (by kernel_rfl) hk ?_
    refine G.loadU none ba (oa + k * 1) (.int .i64 ((limbs m).getD k 0 : Nat)) (by kernel_rfl) (by kernel_rfl) ea ?_
    refine G.addr bb ob (limbs n).length cb k 1 (by kernel_rfl) (by omega) ?_
    refine G.loadU none bb (ob + k * 1) (.int .i64 ((limbs n).getD k 0 : Nat)) (by kernel_rfl) (by kernel_rfl) eb ?_
    refine G.gtrF ((limbs m).getD k 0 : Nat) ((limbs n).getD k 0 : Nat) (by kernel_rfl) (by omega) ?_
    refine G.sub (k : Int) 1 ((k : Int) - 1) (by kernel_rfl) rfl (by omega) (by omega) ?_
    refine G.back (by kernel_rfl) (hJ ((k : Int) - 1) _ _ _ ⟨by kernel_rfl, by kernel_rfl, by kernel_rfl⟩ hle ⟨by omega, by omega, ?_, rfl⟩ (by simp))
    rw [show ((k : Int) - 1 + 1).toNat = k by omega, drop_getD (limbs m) k hk, drop_getD (limbs n) k (by omega), h3, heq]
   ·refine G.lssF ((limbs m).getD k 0 : Nat) ((limbs n).getD k 0 : Nat) (by kernel_rfl) (by omega) ?_
    refine G.addr ba oa (limbs m).length ca k 1 (by kernel_rfl) hk ?_
    refine G.loadU none ba (oa + k * 1) (.int .i64 ((limbs m).getD k 0 : Nat)) (by kernel_rfl) (by kernel_rfl) ea ?_
    refine G.addr bb ob (limbs n).length cb k 1 (by kernel_rfl) (by omega) ?_
    refine G.loadU none bb (ob + k * 1) (.int .i64 ((limbs n).getD k 0 : Nat)) (by kernel_rfl) (by kernel_rfl) eb ?_
    refine G.gtrT ((limbs m).getD k 0 : Nat) ((limbs n).getD k 0 : Nat) (by kernel_rfl) (by omega) ?_
    have := val_lt_of_limb hne.symm (by omega) (low_limbs _) h3.symm hgt
    rw [val_limbs, val_limbs] at this
    exact G.ret (.int .i64 1) (by kernel_rfl) ⟨rfl, by rw [sgn_pos (by omega)]⟩
  ·obtain rfl : z = -1 := by omega
   refine G.geqF (-1) 0 (by kernel_rfl) (by omega) ?_
   have : m = n := by
    have h3 : (limbs m).drop 0 = (limbs n).drop 0 := h3
    rw [List.drop_zero, List.drop_zero] at h3
    rw [← val_limbs m, ← val_limbs n, h3]
   exact G.ret (.int .i64 0) (by kernel_rfl) ⟨rfl, by rw [this, Int.sub_self]; rfl⟩
 ·refine G.neqT ((limbs m).length : Int) ((limbs n).length : Int) (by kernel_rfl) (by omega) ?_
  by_cases hlt : (limbs m).length < (limbs n).length
  ·refine G.lssT ((limbs m).length : Int) ((limbs n).length : Int) (by kernel_rfl) (by omega) ?_
   have := lt_of_nl_lt (m := m) (n := n) hlt
   exact G.ret (.int .i64 (-1)) (by kernel_rfl) ⟨rfl, by rw [sgn_neg (by omega)]⟩
  ·refine G.lssF ((limbs m).length : Int) ((limbs n).length : Int) (by kernel_rfl) (by omega) ?_
   have := lt_of_nl_lt (m := n) (n := m) (show nl n < nl m by unfold nl; omega)
   exact G.ret (.int .i64 1) (by kernel_rfl) ⟨rfl, by rw [sgn_pos (by omega)]⟩
theorem getD_past {l : List Nat} {k : Nat} (h : ¬ k < l.length) : l.getD k 0 = 0 := by rw [List.getD_eq_getElem?_getD, List.getElem?_eq_none (by omega)]; rfl
theorem AddSt.over {a b ys : List Nat} {k c : Nat} (h : AddSt a b k ys c) (ha : Low a) (hb : Low b) (hka : ¬ k < a.length) (hkb : ¬ k < b.length) (hc : c = 0) : val ys = val a + val b := by
 have := h.sum
 rw [List.take_of_length_le (by omega), List.take_of_length_le (by omega), hc] at this
 simpa using this
set_option maxHeartbeats 1000000 in
theorem bigPlus0 {u : PH} {va vb : Value} {la lb : List Nat} (ha : IntsP u va la) (hb : IntsP u vb lb) (lla : Low la) (llb : Low lb) (sa : la.length ≤ 1000000000000) (sb : lb.length ≤ 1000000000000) :
  Fn0 Tryz.prog 206 [va, vb] u fun v u' => ∃ l, IntsP u' v l ∧ Low l ∧ val l = val la + val lb ∧ l.length ≤ max la.length lb.length + 1 := by
 obtain ⟨a, ca, rfl, hca⟩ := ha.opn
 obtain ⟨b, cb, rfl, hcb⟩ := hb.opn
 refine Fn0.of Tryz.func206 (by kernel_rfl) (by kernel_rfl) ?_
 refine G.loop (ι := Nat × List Nat × Nat × Value) (fun i => [(0, .v (.slice a la.length ca)), (1, .v (.slice b lb.length cb)), (5, .v i.2.2.2), (6, .v (.int .i64 (i.2.2.1 : Int))), (7, .v (.int .i64 (i.1 : Int)))]) (fun _ => [])
  (fun i _ m' => (i.1 ≤ max la.length lb.length + 1 ∧ (max la.length lb.length + 1 ≤ i.1 → i.2.2.1 = 0)) ∧ ArrAt PH.mt m' i.2.2.2 3 1 (intsV i.2.1) ∧ AddSt la lb i.1 i.2.1 i.2.2.1) (fun i => max la.length lb.length + 2 - i.1) (0, [], 0, .slice none 0 0) (by kernel_rfl) (fun _ => by kernel_rfl) ⟨by kernel_rfl, by kernel_rfl, by kernel_rfl⟩
  ⟨⟨by simp, fun _ => rfl⟩, ArrAt.nil _ _ _, AddSt.start _ _⟩ ?_
 rintro J ⟨k, ys, c, vo⟩ hJ u' m' hle ⟨hk, hA, hst⟩
 simp only at hk hA hst hJ
 have hc1 := hst.carry
 have hal := lla.getD k
 have hbl := llb.getD k
 obtain ⟨ao, co, rfl⟩ := hA.shape
 obtain ⟨vo, hvo⟩ : ∃ vo, vo = Value.slice ao (intsV ys).length co := ⟨_, rfl⟩
 rw [← hvo] at hA ⊢
 have fin : max la.length lb.length + 1 ≤ 1000000000001 := by omega
 by_cases hka : k < la.length
 ·refine G.lssT (k : Int) (la.length : Int) (by kernel_rfl) (by omega) ?_
  refine G.lssT (k : Int) (la.length : Int) (by kernel_rfl) (by omega) ?_
  have hna : la.getD k 0 < 1000000000 := hal
  obtain ⟨ba, oa, rfl, ea⟩ := (ha.mono hle).at (j := k) hka
  refine G.addr ba oa la.length ca k 1 (by kernel_rfl) hka ?_
  refine G.loadU none ba (oa + k * 1) (.int .i64 (la.getD k 0 : Nat)) (by kernel_rfl) (by kernel_rfl) ea ?_
  refine G.add (c : Int) (la.getD k 0 : Nat) ((c + la.getD k 0 : Nat) : Int) (by kernel_rfl) (by omega) (by omega) (by omega) ?_
  by_cases hkb : k < lb.length
  ·refine G.lssT (k : Int) (lb.length : Int) (by kernel_rfl) (by omega) ?_
   obtain ⟨bb, ob, rfl, eb⟩ := (hb.mono hle).at (j := k) hkb
   refine G.addr bb ob lb.length cb k 1 (by kernel_rfl) hkb ?_
   refine G.loadU none bb (ob + k * 1) (.int .i64 (lb.getD k 0 : Nat)) (by kernel_rfl) (by kernel_rfl) eb ?_
   refine G.add ((c + la.getD k 0 : Nat) : Int) (lb.getD k 0 : Nat) ((c + la.getD k 0 + lb.getD k 0 : Nat) : Int) (by kernel_rfl) (by omega) (by omega) (by omega) ?_
   refine G.rem ((c + la.getD k 0 + lb.getD k 0 : Nat) : Int) 1000000000 (((c + la.getD k 0 + lb.getD k 0) % 1000000000 : Nat) : Int) (by kernel_rfl) (by omega) (by omega) (by omega) (by omega) ?_
   refine G.buildU 3 1 8 (.int .i64 0) [.int .i64 (((c + la.getD k 0 + lb.getD k 0) % 1000000000 : Nat) : Int)] (by kernel_rfl) (intsV_ok [(c + la.getD k 0 + lb.getD k 0) % 1000000000]) rfl (by omega) (by simp) (by simp) ?_
   intro g u1 l1 e1
   refine G.append 3 1 8 (.int .i64 0) PH.mt (intsV ys) [.int .i64 (((c + la.getD k 0 + lb.getD k 0) % 1000000000 : Nat) : Int)] vo g 0 1 1 (by kernel_rfl) rfl rfl (by omega) hA e1 (intsV_ok [(c + la.getD k 0 + lb.getD k 0) % 1000000000]) rfl (by omega) (by rw [intsV_length, hst.len]; omega) (by rw [intsV_length, hst.len]; omega) ?_
   intro v2 m2 hA2
   rw [intsV_snoc] at hA2
   refine G.quo ((c + la.getD k 0 + lb.getD k 0 : Nat) : Int) 1000000000 (((c + la.getD k 0 + lb.getD k 0) / 1000000000 : Nat) : Int) (by kernel_rfl) (by omega) (by omega) (by omega) (by omega) ?_
   refine G.add (k : Int) 1 ((k + 1 : Nat) : Int) (by kernel_rfl) (by omega) (by omega) (by omega) ?_
   refine G.back (by kernel_rfl) (hJ (k + 1, ys ++ [(c + la.getD k 0 + lb.getD k 0) % 1000000000], (c + la.getD k 0 + lb.getD k 0) / 1000000000, v2) _ _ _ ⟨by kernel_rfl, by kernel_rfl, by kernel_rfl⟩ (hle.trans l1) ⟨⟨by omega, by dsimp only; omega⟩, hA2, ?_⟩ (by show max la.length lb.length + 2 - (k + 1) < max la.length lb.length + 2 - k; omega))
   have := hst.step lla llb (x := la.getD k 0) (y := lb.getD k 0) rfl rfl; rw [show la.getD k 0 + lb.getD k 0 + c = c + la.getD k 0 + lb.getD k 0 by omega] at this; exact this
  ·have hz := getD_past hkb
   refine G.lssF (k : Int) (lb.length : Int) (by kernel_rfl) (by omega) ?_
   refine G.rem ((c + la.getD k 0 : Nat) : Int) 1000000000 (((c + la.getD k 0) % 1000000000 : Nat) : Int) (by kernel_rfl) (by omega) (by omega) (by omega) (by omega) ?_
   refine G.buildU 3 1 8 (.int .i64 0) [.int .i64 (((c + la.getD k 0) % 1000000000 : Nat) : Int)] (by kernel_rfl) (intsV_ok [(c + la.getD k 0) % 1000000000]) rfl (by omega) (by simp) (by simp) ?_
   intro g u1 l1 e1
   refine G.append 3 1 8 (.int .i64 0) PH.mt (intsV ys) [.int .i64 (((c + la.getD k 0) % 1000000000 : Nat) : Int)] vo g 0 1 1 (by kernel_rfl) rfl rfl (by omega) hA e1 (intsV_ok [(c + la.getD k 0) % 1000000000]) rfl (by omega) (by rw [intsV_length, hst.len]; omega) (by rw [intsV_length, hst.len]; omega) ?_
   intro v2 m2 hA2
   rw [intsV_snoc] at hA2
   refine G.quo ((c + la.getD k 0 : Nat) : Int) 1000000000 (((c + la.getD k 0) / 1000000000 : Nat) : Int) (by kernel_rfl) (by omega) (by omega) (by omega) (by omega) ?_
   refine G.add (k : Int) 1 ((k + 1 : Nat) : Int) (by kernel_rfl) (by omega) (by omega) (by omega) ?_
   refine G.back (by kernel_rfl) (hJ (k + 1, ys ++ [(c + la.getD k 0) % 1000000000], (c + la.getD k 0) / 1000000000, v2) _ _ _ ⟨by kernel_rfl, by kernel_rfl, by kernel_rfl⟩ (hle.trans l1) ⟨⟨by omega, by dsimp only; omega⟩, hA2, ?_⟩ (by show max la.length lb.length + 2 - (k + 1) < max la.length lb.length + 2 - k; omega))
   have := hst.step lla llb (x := la.getD k 0) (y := lb.getD k 0) rfl rfl; rw [show la.getD k 0 + lb.getD k 0 + c = c + la.getD k 0 by omega] at this; exact this
 ·have hza := getD_past hka
  by_cases hkb : k < lb.length
  ·refine G.lssF (k : Int) (la.length : Int) (by kernel_rfl) (by omega) ?_
   refine G.lssT (k : Int) (lb.length : Int) (by kernel_rfl) (by omega) ?_
   refine G.lssF (k : Int) (la.length : Int) (by kernel_rfl) (by omega) ?_
   refine G.lssT (k : Int) (lb.length : Int) (by kernel_rfl) (by omega) ?_
   obtain ⟨bb, ob, rfl, eb⟩ := (hb.mono hle).at (j := k) hkb
   refine G.addr bb ob lb.length cb k 1 (by kernel_rfl) hkb ?_
   refine G.loadU none bb (ob + k * 1) (.int .i64 (lb.getD k 0 : Nat)) (by kernel_rfl) (by kernel_rfl) eb ?_
   refine G.add ((c : Nat) : Int) (lb.getD k 0 : Nat) ((c + lb.getD k 0 : Nat) : Int) (by kernel_rfl) (by omega) (by omega) (by omega) ?_
   refine G.rem ((c + lb.getD k 0 : Nat) : Int) 1000000000 (((c + lb.getD k 0) % 1000000000 : Nat) : Int) (by kernel_rfl) (by omega) (by omega) (by omega) (by omega) ?_
   refine G.buildU 3 1 8 (.int .i64 0) [.int .i64 (((c + lb.getD k 0) % 1000000000 : Nat) : Int)] (by kernel_rfl) (intsV_ok [(c + lb.getD k 0) % 1000000000]) rfl (by omega) (by simp) (by simp) ?_
   intro g u1 l1 e1
   refine G.append 3 1 8 (.int .i64 0) PH.mt (intsV ys) [.int .i64 (((c + lb.getD k 0) % 1000000000 : Nat) : Int)] vo g 0 1 1 (by kernel_rfl) rfl rfl (by omega) hA e1 (intsV_ok [(c + lb.getD k 0) % 1000000000]) rfl (by omega) (by rw [intsV_length, hst.len]; omega) (by rw [intsV_length, hst.len]; omega) ?_
   intro v2 m2 hA2
   rw [intsV_snoc] at hA2
   refine G.quo ((c + lb.getD k 0 : Nat) : Int) 1000000000 (((c + lb.getD k 0) / 1000000000 : Nat) : Int) (by kernel_rfl) (by omega) (by omega) (by omega) (by omega) ?_
   refine G.add (k : Int) 1 ((k + 1 : Nat) : Int) (by kernel_rfl) (by omega) (by omega) (by omega) ?_
   refine G.back (by kernel_rfl) (hJ (k + 1, ys ++ [(c + lb.getD k 0) % 1000000000], (c + lb.getD k 0) / 1000000000, v2) _ _ _ ⟨by kernel_rfl, by kernel_rfl, by kernel_rfl⟩ (hle.trans l1) ⟨⟨by omega, by dsimp only; omega⟩, hA2, ?_⟩ (by show max la.length lb.length + 2 - (k + 1) < max la.length lb.length + 2 - k; omega))
   have := hst.step lla llb (x := la.getD k 0) (y := lb.getD k 0) rfl rfl; rw [show la.getD k 0 + lb.getD k 0 + c = c + lb.getD k 0 by omega] at this; exact this
  ·have hzb := getD_past hkb
   by_cases hc0 : 0 < c
   ·refine G.lssF (k : Int) (la.length : Int) (by kernel_rfl) (by omega) ?_
    refine G.lssF (k : Int) (lb.length : Int) (by kernel_rfl) (by omega) ?_
    refine G.gtrT (c : Int) 0 (by kernel_rfl) (by omega) ?_
    refine G.lssF (k : Int) (la.length : Int) (by kernel_rfl) (by omega) ?_
    refine G.lssF (k : Int) (lb.length : Int) (by kernel_rfl) (by omega) ?_
    refine G.rem ((c : Nat) : Int) 1000000000 (((c) % 1000000000 : Nat) : Int) (by kernel_rfl) (by omega) (by omega) (by omega) (by omega) ?_
    refine G.buildU 3 1 8 (.int .i64 0) [.int .i64 (((c) % 1000000000 : Nat) : Int)] (by kernel_rfl) (intsV_ok [(c) % 1000000000]) rfl (by omega) (by simp) (by simp) ?_
    intro g u1 l1 e1
    refine G.append 3 1 8 (.int .i64 0) PH.mt (intsV ys) [.int .i64 (((c) % 1000000000 : Nat) : Int)] vo g 0 1 1 (by kernel_rfl) rfl rfl (by omega) hA e1 (intsV_ok [(c) % 1000000000]) rfl (by omega) (by rw [intsV_length, hst.len]; omega) (by rw [intsV_length, hst.len]; omega) ?_
    intro v2 m2 hA2
    rw [intsV_snoc] at hA2
    refine G.quo ((c : Nat) : Int) 1000000000 (((c) / 1000000000 : Nat) : Int) (by kernel_rfl) (by omega) (by omega) (by omega) (by omega) ?_
    refine G.add (k : Int) 1 ((k + 1 : Nat) : Int) (by kernel_rfl) (by omega) (by omega) (by omega) ?_
    refine G.back (by kernel_rfl) (hJ (k + 1, ys ++ [(c) % 1000000000], (c) / 1000000000, v2) _ _ _ ⟨by kernel_rfl, by kernel_rfl, by kernel_rfl⟩ (hle.trans l1) ⟨⟨by omega, by dsimp only; omega⟩, hA2, ?_⟩ (by show max la.length lb.length + 2 - (k + 1) < max la.length lb.length + 2 - k; omega))
    have := hst.step lla llb (x := la.getD k 0) (y := lb.getD k 0) rfl rfl; rw [show la.getD k 0 + lb.getD k 0 + c = c by omega] at this; exact this
   ·refine G.lssF (k : Int) (la.length : Int) (by kernel_rfl) (by omega) ?_
    refine G.lssF (k : Int) (lb.length : Int) (by kernel_rfl) (by omega) ?_
    refine G.gtrF (c : Int) 0 (by kernel_rfl) (by omega) ?_
    refine G.give PH.mt (intsV ys) vo (by kernel_rfl) hA (fun _ => .inl rfl) ?_
    intro u1 l1 hL
    refine G.ret vo (by kernel_rfl) ⟨rfl, ys, hL, hst.low, hst.over lla llb hka hkb (by omega), ?_⟩
    rw [hst.len]; omega
end Go.Proofs.YtpdboaedoimahaaGreatDoor
end
section
set_option linter.unusedSectionVars false
set_option linter.unusedVariables false
namespace Go.Proofs.YtpdboaedoimahaaGreatDoor
open Go.RowKit
def castL (l : List Nat) : List Int := l.map fun (n : Nat) => (n : Int)
def Zl (la ys : List Nat) (c : Nat) : List Int := castL ys ++ (match la.drop ys.length with | [] => [] | x :: r => ((x : Int) - c) :: castL r)
theorem Zl_start (la : List Nat) : Zl la [] 0 = castL la := by
 unfold Zl; cases la <;> simp [castL]
theorem Zl_open {la ys : List Nat} (c : Nat) (h : ys.length < la.length) : Zl la ys c = castL ys ++ ((la.getD ys.length 0 : Nat) - (c : Int)) :: castL (la.drop (ys.length + 1)) := by
 unfold Zl; rw [drop_getD la ys.length h]
theorem Zl_len {la ys : List Nat} (c : Nat) (h : ys.length ≤ la.length) : (Zl la ys c).length = la.length := by
 rcases Nat.lt_or_ge ys.length la.length with h1 | h1
 ·rw [Zl_open c h1]; simp [castL]; omega
 ·unfold Zl; rw [List.drop_of_length_le h1]; simp [castL]; omega
theorem Zl_at {la ys : List Nat} (c : Nat) (h : ys.length < la.length) : (Zl la ys c)[ys.length]? = some ((la.getD ys.length 0 : Nat) - (c : Int)) := by
 rw [Zl_open c h, List.getElem?_append_right (by simp [castL])]; simp [castL]
theorem Zl_set {la ys : List Nat} (c : Nat) (d : Int) (h : ys.length < la.length) : (Zl la ys c).set ys.length d = castL ys ++ d :: castL (la.drop (ys.length + 1)) := by
 rw [Zl_open c h, List.set_append_right _ _ (by simp [castL])]; simp [castL]
theorem Zl_next {la ys : List Nat} (c n : Nat) (h : ys.length < la.length) : (Zl la ys c).set ys.length (n : Int) = Zl la (ys ++ [n]) 0 := by
 rw [Zl_set c _ h]
 unfold Zl
 simp only [List.length_append, List.length_singleton]
 cases la.drop (ys.length + 1) <;> simp [castL]
theorem Zl_next1 {la ys : List Nat} (c n : Nat) (h : ys.length + 1 < la.length) : ((Zl la ys c).set ys.length (n : Int)).set (ys.length + 1) ((la.getD (ys.length + 1) 0 : Nat) - 1) = Zl la (ys ++ [n]) 1 := by
 rw [Zl_next c n (by omega)]
 have h1 : (ys ++ [n]).length < la.length := by simpa using h
 have := Zl_set (la := la) (ys := ys ++ [n]) 0 ((la.getD (ys.length + 1) 0 : Nat) - 1) h1
 rw [List.length_append, List.length_singleton] at this
 rw [this, Zl_open 1 h1]
 simp
theorem Zl_get1 {la ys : List Nat} (c n : Nat) (h : ys.length + 1 < la.length) : ((Zl la ys c).set ys.length (n : Int))[ys.length + 1]? = some ((la.getD (ys.length + 1) 0 : Nat) : Int) := by
 rw [Zl_next c n (by omega)]
 have := Zl_at (la := la) (ys := ys ++ [n]) 0 (by simpa using h)
 rw [List.length_append, List.length_singleton] at this
 simpa using this
theorem Zl_done {la ys : List Nat} (c : Nat) (h : ys.length = la.length) : Zl la ys c = castL ys := by
 unfold Zl; rw [List.drop_of_length_le (by omega)]; simp
theorem SubSt.last {a b ys : List Nat} {c : Nat} (h : SubSt a b a.length ys c) (hb : b.length ≤ a.length) (hle : val b ≤ val a) : c = 0 := by
 have hs := h.sum
 rw [List.take_of_length_le (Nat.le_refl _), List.take_of_length_le hb] at hs
 have h1 := val_lt h.low
 rw [h.len] at h1
 rcases Nat.eq_zero_or_pos c with h0 | h0
 ·exact h0
 ·have : 1000000000 ^ a.length * 1 ≤ 1000000000 ^ a.length * c := Nat.mul_le_mul_left _ h0
  omega
theorem elZ {l : List Int} {j : Nat} {d : Int} (h : l[j]? = some d) : (intsZ l)[j]? = some (.int .i64 d) := by simp [intsZ, h]
set_option maxHeartbeats 2000000 in
theorem bigMinus0 {u : PH} {va vb : Value} {la lb : List Nat} (ha : IntsP u va la) (hb : IntsP u vb lb) (lla : Low la) (llb : Low lb) (sa : la.length ≤ 1000000000000) (hlen : lb.length ≤ la.length) (hval : val lb ≤ val la) :
  Fn0 Tryz.prog 207 [va, vb] u fun v u' => ∃ l, IntsP u' v l ∧ Low l ∧ val l = val la - val lb ∧ l.length = la.length := by
 obtain ⟨a, ca, rfl, hca⟩ := ha.opn
 obtain ⟨b, cb, rfl, hcb⟩ := hb.opn
 refine Fn0.of Tryz.func207 (by kernel_rfl) (by kernel_rfl) ?_
 rcases Nat.eq_zero_or_pos la.length with h0 | h0
 ·have e1 : la = [] := List.eq_nil_of_length_eq_zero h0
  have e2 : lb = [] := List.eq_nil_of_length_eq_zero (by omega)
  subst e1 e2
  refine G.appendNil 3 1 8 (.int .i64 0) a ca (by kernel_rfl) ?_
  refine G.loop (ι := Unit) (fun _ => [(5, .v (.slice none 0 0)), (6, .v (.int .i64 0))]) (fun _ => []) (fun _ _ m' => m' = PH.mt) (fun _ => 0) () (by kernel_rfl) (fun _ => by kernel_rfl) ⟨by kernel_rfl, by kernel_rfl, by kernel_rfl⟩ rfl ?_
  rintro J _ hJ u' m' hle rfl
  refine G.lssF 0 ((0 : Nat) : Int) (by kernel_rfl) (by omega) ?_
  exact G.ret (.slice none 0 0) (by kernel_rfl) ⟨rfl, [], ListP.nil _ _ _ _, Low.nil, by simp [val], rfl⟩
 ·obtain ⟨ba, oa, rfl, _⟩ := ha.at (j := 0) h0
  refine G.append 3 1 8 (.int .i64 0) PH.mt [] (intsV la) (.slice none 0 0) ba oa la.length ca (by kernel_rfl) rfl rfl (by omega) (ArrAt.nil _ _ _) ha.els (intsV_ok la) (intsV_length la) h0 (by simp; omega) (by simp; omega) ?_
  intro vo m1 hA
  rw [List.nil_append, ← intsZ_nat] at hA
  obtain ⟨bo, co, rfl⟩ := hA.ptr (by intro e; have := congrArg List.length e; rw [intsZ_length, List.length_map, List.length_nil] at this; omega)
  have hA0 : ArrAt PH.mt m1 (.slice (some ⟨bo, 0, none⟩) la.length co) 3 1 (intsZ (Zl la [] 0)) := by
   have := hA
   rw [intsZ_length, List.length_map] at this
   rw [Zl_start]; exact this
  rw [intsZ_length, List.length_map]
  refine G.loop (ι := Nat × List Nat × Nat) (fun i => [(1, .v (.slice b lb.length cb)), (5, .v (.slice (some ⟨bo, 0, none⟩) la.length co)), (6, .v (.int .i64 (i.1 : Int)))]) (fun _ => [])
   (fun i _ m' => i.1 ≤ la.length ∧ SubSt la lb i.1 i.2.1 i.2.2 ∧ ArrAt PH.mt m' (.slice (some ⟨bo, 0, none⟩) la.length co) 3 1 (intsZ (Zl la i.2.1 i.2.2))) (fun i => la.length - i.1) (0, [], 0) (by kernel_rfl) (fun _ => by kernel_rfl) ⟨by kernel_rfl, by kernel_rfl, by kernel_rfl⟩
   ⟨by simp, SubSt.start _ _, hA0⟩ ?_
  clear hA hA0 m1
  rintro J ⟨k, ys, c⟩ hJ u' m' hle ⟨hk, hst, hA⟩
  simp only at hk hst hA hJ
  have hc1 := hst.carry
  have hyl := hst.len
  have hal := lla.getD k
  have hbl := llb.getD k
  by_cases hlt : k < la.length
  ·refine G.lssT (k : Int) (la.length : Int) (by kernel_rfl) (by omega) ?_
   have hky : ys.length < la.length := by omega
   have hat := Zl_at (la := la) (ys := ys) c hky
   rw [hyl] at hat
   by_cases hkb : k < lb.length
   ·obtain ⟨bb, ob, rfl, eb⟩ := (hb.mono hle).at (j := k) hkb
    refine G.lssT (k : Int) (lb.length : Int) (by kernel_rfl) (by omega) ?_
    refine G.addr bo 0 la.length co k 1 (by kernel_rfl) hlt ?_
    refine G.loadM none bo (0 + k * 1) (.int .i64 ((la.getD k 0 : Nat) - (c : Int))) (by kernel_rfl) (by kernel_rfl) (hA.el (elZ hat)) ?_
    refine G.addr bb ob lb.length cb k 1 (by kernel_rfl) hkb ?_
    refine G.loadU none bb (ob + k * 1) (.int .i64 (lb.getD k 0 : Nat)) (by kernel_rfl) (by kernel_rfl) eb ?_
    obtain ⟨d, hd⟩ : ∃ d : Int, d = (la.getD k 0 : Nat) - (c : Int) - (lb.getD k 0 : Nat) := ⟨_, rfl⟩
    refine G.sub ((la.getD k 0 : Nat) - (c : Int)) (lb.getD k 0 : Nat) d (by kernel_rfl) (by omega) (by omega) (by omega) ?_
    refine G.addr bo 0 la.length co k 1 (by kernel_rfl) hlt ?_
    refine G.storeA 1 PH.mt _ bo la.length co k (.int .i64 d) (by kernel_rfl) hA (by rw [intsZ_length, Zl_len c (by omega)]; exact hlt) rfl rfl ?_
    intro m2 hA2
    rw [intsZ_set] at hA2
    have hd2 : ((Zl la ys c).set k d)[k]? = some d := by rw [List.getElem?_set_self (by rw [Zl_len c (by omega)]; exact hlt)]
    refine G.addr bo 0 la.length co k 1 (by kernel_rfl) hlt ?_
    refine G.loadM none bo (0 + k * 1) (.int .i64 d) (by kernel_rfl) (by kernel_rfl) (hA2.el (elZ hd2)) ?_
    by_cases hneg : d < 0
    ·refine G.lssT d 0 (by kernel_rfl) hneg ?_
     have hstep := hst.step lla llb (x := la.getD k 0) (y := lb.getD k 0) rfl rfl
     obtain ⟨n, hn⟩ : ∃ n : Nat, n = (la.getD k 0 + 1000000000 - lb.getD k 0 - c) % 1000000000 := ⟨_, rfl⟩
     have hc' : 1 - (la.getD k 0 + 1000000000 - lb.getD k 0 - c) / 1000000000 = 1 := by omega
     rw [← hn, hc'] at hstep
     have hk1 : k + 1 < la.length := by
      rcases Nat.lt_or_ge (k + 1) la.length with h | h
      ·exact h
      ·have : k + 1 = la.length := by omega
       rw [this] at hstep
       have := hstep.last hlen hval
       omega
     refine G.addr bo 0 la.length co k 1 (by kernel_rfl) hlt ?_
     refine G.loadM none bo (0 + k * 1) (.int .i64 d) (by kernel_rfl) (by kernel_rfl) (hA2.el (elZ hd2)) ?_
     refine G.add d 1000000000 (n : Int) (by kernel_rfl) (by omega) (by omega) (by omega) ?_
     refine G.addr bo 0 la.length co k 1 (by kernel_rfl) hlt ?_
     refine G.storeA 1 PH.mt _ bo la.length co k (.int .i64 (n : Int)) (by kernel_rfl) hA2 (by rw [intsZ_length, List.length_set, Zl_len c (by omega)]; exact hlt) rfl rfl ?_
     intro m3 hA3
     rw [intsZ_set, List.set_set] at hA3
     refine G.add (k : Int) 1 ((k + 1 : Nat) : Int) (by kernel_rfl) (by omega) (by omega) (by omega) ?_
     have hg1 := Zl_get1 (la := la) (ys := ys) c n (by omega)
     rw [hyl] at hg1
     have hal1 := lla.getD (k + 1)
     refine G.addr bo 0 la.length co (k + 1) 1 (by kernel_rfl) hk1 ?_
     refine G.loadM none bo (0 + (k + 1) * 1) (.int .i64 ((la.getD (k + 1) 0 : Nat) : Int)) (by kernel_rfl) (by kernel_rfl) (hA3.el (elZ hg1)) ?_
     refine G.sub ((la.getD (k + 1) 0 : Nat) : Int) 1 ((la.getD (k + 1) 0 : Nat) - 1) (by kernel_rfl) rfl (by omega) (by omega) ?_
     refine G.addr bo 0 la.length co (k + 1) 1 (by kernel_rfl) hk1 ?_
     refine G.storeA 1 PH.mt _ bo la.length co (k + 1) (.int .i64 ((la.getD (k + 1) 0 : Nat) - 1)) (by kernel_rfl) hA3 (by rw [intsZ_length, List.length_set, Zl_len c (by omega)]; exact hk1) rfl rfl ?_
     intro m4 hA4
     have e4 := Zl_next1 (la := la) (ys := ys) c n (by omega)
     rw [hyl] at e4
     rw [intsZ_set, e4] at hA4
     refine G.add (k : Int) 1 ((k + 1 : Nat) : Int) (by kernel_rfl) (by omega) (by omega) (by omega) ?_
     exact G.back (by kernel_rfl) (hJ (k + 1, ys ++ [n], 1) _ _ _ ⟨by kernel_rfl, by kernel_rfl, by kernel_rfl⟩ hle ⟨by omega, hstep, hA4⟩ (by dsimp only; omega))
    ·refine G.lssF d 0 (by kernel_rfl) hneg ?_
     have hstep := hst.step lla llb (x := la.getD k 0) (y := lb.getD k 0) rfl rfl
     obtain ⟨n, hn⟩ : ∃ n : Nat, n = (la.getD k 0 + 1000000000 - lb.getD k 0 - c) % 1000000000 := ⟨_, rfl⟩
     have hc' : 1 - (la.getD k 0 + 1000000000 - lb.getD k 0 - c) / 1000000000 = 0 := by omega
     rw [← hn, hc'] at hstep
     have hdn : d = (n : Int) := by omega
     have e4 := Zl_next (la := la) (ys := ys) c n (by omega)
     rw [hyl] at e4
     rw [hdn, e4] at hA2
     refine G.add (k : Int) 1 ((k + 1 : Nat) : Int) (by kernel_rfl) (by omega) (by omega) (by omega) ?_
     exact G.back (by kernel_rfl) (hJ (k + 1, ys ++ [n], 0) _ _ _ ⟨by kernel_rfl, by kernel_rfl, by kernel_rfl⟩ hle ⟨by omega, hstep, hA2⟩ (by dsimp only; omega))
   ·have hz := getD_past hkb
    refine G.lssF (k : Int) (lb.length : Int) (by kernel_rfl) (by omega) ?_
    obtain ⟨d, hd⟩ : ∃ d : Int, d = (la.getD k 0 : Nat) - (c : Int) - (lb.getD k 0 : Nat) := ⟨_, rfl⟩
    have hA2 : ArrAt PH.mt m' (.slice (some ⟨bo, 0, none⟩) la.length co) 3 1 (intsZ ((Zl la ys c).set k d)) := by
     have e : (Zl la ys c).set k d = Zl la ys c := by
      have : (la.getD k 0 : Nat) - (c : Int) = d := by omega
      rw [this] at hat
      refine List.ext_getElem? fun j => ?_
      by_cases hj : k = j
      ·subst hj; rw [List.getElem?_set_self (by rw [Zl_len c (by omega)]; exact hlt), hat]
      ·rw [List.getElem?_set_ne hj]
     rw [e]; exact hA
    have hd2 : ((Zl la ys c).set k d)[k]? = some d := by rw [List.getElem?_set_self (by rw [Zl_len c (by omega)]; exact hlt)]
    refine G.addr bo 0 la.length co k 1 (by kernel_rfl) hlt ?_
    refine G.loadM none bo (0 + k * 1) (.int .i64 d) (by kernel_rfl) (by kernel_rfl) (hA2.el (elZ hd2)) ?_
    by_cases hneg : d < 0
    ·refine G.lssT d 0 (by kernel_rfl) hneg ?_
     have hstep := hst.step lla llb (x := la.getD k 0) (y := lb.getD k 0) rfl rfl
     obtain ⟨n, hn⟩ : ∃ n : Nat, n = (la.getD k 0 + 1000000000 - lb.getD k 0 - c) % 1000000000 := ⟨_, rfl⟩
     have hc' : 1 - (la.getD k 0 + 1000000000 - lb.getD k 0 - c) / 1000000000 = 1 := by omega
     rw [← hn, hc'] at hstep
     have hk1 : k + 1 < la.length := by
      rcases Nat.lt_or_ge (k + 1) la.length with h | h
      ·exact h
      ·have : k + 1 = la.length := by omega
       rw [this] at hstep
       have := hstep.last hlen hval
       omega
     refine G.addr bo 0 la.length co k 1 (by kernel_rfl) hlt ?_
     refine G.loadM none bo (0 + k * 1) (.int .i64 d) (by kernel_rfl) (by kernel_rfl) (hA2.el (elZ hd2)) ?_
     refine G.add d 1000000000 (n : Int) (by kernel_rfl) (by omega) (by omega) (by omega) ?_
     refine G.addr bo 0 la.length co k 1 (by kernel_rfl) hlt ?_
     refine G.storeA 1 PH.mt _ bo la.length co k (.int .i64 (n : Int)) (by kernel_rfl) hA2 (by rw [intsZ_length, List.length_set, Zl_len c (by omega)]; exact hlt) rfl rfl ?_
     intro m3 hA3
     rw [intsZ_set, List.set_set] at hA3
     refine G.add (k : Int) 1 ((k + 1 : Nat) : Int) (by kernel_rfl) (by omega) (by omega) (by omega) ?_
     have hg1 := Zl_get1 (la := la) (ys := ys) c n (by omega)
     rw [hyl] at hg1
     have hal1 := lla.getD (k + 1)
     refine G.addr bo 0 la.length co (k + 1) 1 (by kernel_rfl) hk1 ?_
     refine G.loadM none bo (0 + (k + 1) * 1) (.int .i64 ((la.getD (k + 1) 0 : Nat) : Int)) (by kernel_rfl) (by kernel_rfl) (hA3.el (elZ hg1)) ?_
     refine G.sub ((la.getD (k + 1) 0 : Nat) : Int) 1 ((la.getD (k + 1) 0 : Nat) - 1) (by kernel_rfl) rfl (by omega) (by omega) ?_
     refine G.addr bo 0 la.length co (k + 1) 1 (by kernel_rfl) hk1 ?_
     refine G.storeA 1 PH.mt _ bo la.length co (k + 1) (.int .i64 ((la.getD (k + 1) 0 : Nat) - 1)) (by kernel_rfl) hA3 (by rw [intsZ_length, List.length_set, Zl_len c (by omega)]; exact hk1) rfl rfl ?_
     intro m4 hA4
     have e4 := Zl_next1 (la := la) (ys := ys) c n (by omega)
     rw [hyl] at e4
     rw [intsZ_set, e4] at hA4
     refine G.add (k : Int) 1 ((k + 1 : Nat) : Int) (by kernel_rfl) (by omega) (by omega) (by omega) ?_
     exact G.back (by kernel_rfl) (hJ (k + 1, ys ++ [n], 1) _ _ _ ⟨by kernel_rfl, by kernel_rfl, by kernel_rfl⟩ hle ⟨by omega, hstep, hA4⟩ (by dsimp only; omega))
    ·refine G.lssF d 0 (by kernel_rfl) hneg ?_
     have hstep := hst.step lla llb (x := la.getD k 0) (y := lb.getD k 0) rfl rfl
     obtain ⟨n, hn⟩ : ∃ n : Nat, n = (la.getD k 0 + 1000000000 - lb.getD k 0 - c) % 1000000000 := ⟨_, rfl⟩
     have hc' : 1 - (la.getD k 0 + 1000000000 - lb.getD k 0 - c) / 1000000000 = 0 := by omega
     rw [← hn, hc'] at hstep
     have hdn : d = (n : Int) := by omega
     have e4 := Zl_next (la := la) (ys := ys) c n (by omega)
     rw [hyl] at e4
     rw [hdn, e4] at hA2
     refine G.add (k : Int) 1 ((k + 1 : Nat) : Int) (by kernel_rfl) (by omega) (by omega) (by omega) ?_
     exact G.back (by kernel_rfl) (hJ (k + 1, ys ++ [n], 0) _ _ _ ⟨by kernel_rfl, by kernel_rfl, by kernel_rfl⟩ hle ⟨by omega, hstep, hA2⟩ (by dsimp only; omega))
  ·obtain rfl : k = la.length := by omega
   refine G.lssF (la.length : Int) (la.length : Int) (by kernel_rfl) (by omega) ?_
   have hc0 := hst.last hlen hval
   rw [Zl_done c hyl, show intsZ (castL ys) = intsV ys from intsZ_nat ys] at hA
   refine G.give PH.mt (intsV ys) _ (by kernel_rfl) hA (fun _ => .inl rfl) ?_
   intro u1 l1 hL
   exact G.ret (.slice (some ⟨bo, 0, none⟩) la.length co) (by kernel_rfl) ⟨rfl, ys, hL, hst.low, hst.done hlen hval, hyl⟩
end Go.Proofs.YtpdboaedoimahaaGreatDoor
end
section
set_option linter.unusedSectionVars false
set_option linter.unusedVariables false
namespace Go.Proofs.YtpdboaedoimahaaGreatDoor
open Go.RowKit
def BigP (u : PH) (v : Value) (z : Int) : Prop := ∃ a n c, v = .agg #[.bool (decide (z < 0)), .slice a n c] ∧ IntsP u (.slice a n c) (limbs z.natAbs)
theorem BigP.mono {u u' : PH} {v : Value} {z : Int} (h : BigP u v z) (hl : PH.le u u') : BigP u' v z := by
 obtain ⟨a, n, c, h1, h2⟩ := h; exact ⟨a, n, c, h1, h2.mono hl⟩
theorem BigP.opn {u : PH} {v : Value} {z : Int} (h : BigP u v z) : ∃ b a n c, v = .agg #[.bool b, .slice a n c] ∧ b = decide (z < 0) ∧ IntsP u (.slice a n c) (limbs z.natAbs) := by
 obtain ⟨a, n, c, rfl, h2⟩ := h; exact ⟨_, a, n, c, rfl, rfl, h2⟩
theorem trim_pos {l : List Nat} (hl : Low l) : 0 < trimTo l l.length ↔ 0 < val l := by
 have := limbs_trim hl
 rw [← len_pos (n := val l), this, List.length_take]
 have := trimTo_le l l.length
 omega
theorem big_of_trim {u : PH} {a : Option Addr} {n c : Nat} {l : List Nat} (b : Bool) (h : IntsP u (.slice a n c) l) (hl : Low l) : BigP u (.agg #[.bool (b && decide (0 < trimTo l l.length)), .slice a (trimTo l l.length) c]) (sgnd b (val l)) := by
 refine ⟨a, trimTo l l.length, c, ?_, ?_⟩
 ·rw [sgnd_neg, decide_eq_decide.2 (trim_pos hl)]
 ·rw [sgnd_natAbs, limbs_trim hl]
  exact h.take _ (trimTo_le _ _)
theorem bigTrimB {u : PH} {b : Bool} {a : Option Addr} {n c : Nat} {l : List Nat} (h : IntsP u (.slice a n c) l) (hl : Low l) (hs : l.length ≤ 1000000000000000000) :
  Fn0 Tryz.prog 172 [.agg #[.bool b, .slice a n c]] u fun v u' => BigP u' v (sgnd b (val l)) := by
 intro w hg
 refine Calls.mono (bigTrim0 (b := b) h hs w hg) fun e w' he => ?_
 obtain ⟨v, u', m', e1, e2, e3, e4, rfl⟩ := he
 exact ⟨_, u', m', e1, e2, e3, e4, big_of_trim b (h.mono (e3.le hg.pu)) hl⟩
theorem bigMinus1 {u : PH} {x : Value} {z : Int} (h : BigP u x z) (hs : nl z.natAbs ≤ 1000000000000000000) : Fn0 Tryz.prog 205 [x] u fun v u' => BigP u' v (-z) := by
 obtain ⟨b, a, n, c, rfl, hb, hi⟩ := h.opn
 obtain ⟨rfl, hc⟩ := hi.len
 have hs' : (limbs z.natAbs).length ≤ 1000000000000000000 := hs
 refine Fn0.of Tryz.func205 (by kernel_rfl) (by kernel_rfl) ?_
 have hp := len_pos (n := z.natAbs)
 have fin : ∀ b' : Bool, b' = decide (-z < 0) → BigP u (.agg #[.bool b', .slice a (limbs z.natAbs).length c]) (-z) := fun b' hb' => ⟨a, (limbs z.natAbs).length, c, by rw [hb'], by rw [Int.natAbs_neg]; exact hi⟩
 cases b
 ·have hz : 0 ≤ z := by simpa using hb.symm
  by_cases h0 : 0 < (limbs z.natAbs).length
  ·refine G.gtrT ((limbs z.natAbs).length : Int) 0 (by kernel_rfl) (by omega) ?_
   exact G.ret (.agg #[.bool true, .slice a (limbs z.natAbs).length c]) (by kernel_rfl) ⟨rfl, fin true (by have := hp.1 h0; simp; omega)⟩
  ·refine G.gtrF ((limbs z.natAbs).length : Int) 0 (by kernel_rfl) (by omega) ?_
   exact G.ret (.agg #[.bool false, .slice a (limbs z.natAbs).length c]) (by kernel_rfl) ⟨rfl, fin false (by have : ¬ 0 < z.natAbs := fun h => h0 (hp.2 h); simp; omega)⟩
 ·have hz : z < 0 := by simpa using hb.symm
  exact G.ret (.agg #[.bool false, .slice a (limbs z.natAbs).length c]) (by kernel_rfl) ⟨rfl, fin false (by simp; omega)⟩
theorem val_le_len {m n : Nat} (h : n ≤ m) : (limbs n).length ≤ (limbs m).length := nl_mono h
theorem bigAdd0 {u : PH} {x x' : Value} {y z : Int} (hx : BigP u x y) (hx' : BigP u x' z) (sy : nl y.natAbs ≤ 1000000000000) (sz : nl z.natAbs ≤ 1000000000000) : Fn0 Tryz.prog 171 [x, x'] u fun v u' => BigP u' v (y + z) := by
 obtain ⟨b, a, n, c, rfl, hb, hi⟩ := hx.opn
 obtain ⟨b', a', n', c', rfl, hb', hi'⟩ := hx'.opn
 have sy' : (limbs y.natAbs).length ≤ 1000000000000 := sy
 have sz' : (limbs z.natAbs).length ≤ 1000000000000 := sz
 refine Fn0.of Tryz.func171 (by kernel_rfl) (by kernel_rfl) ?_
 refine G.eqB b b' (by kernel_rfl) ?_
 by_cases hbb : b = b'
 ·have hs := sgnd_add (y := y) (z := z) (by rw [← hb, ← hb', hbb])
  rw [← hb] at hs
  rw [show (b == b') = true by rw [hbb]; simp]
  refine G.call0 _ _ (by kernel_rfl) Tryz.call206 (bigPlus0 hi hi' (low_limbs _) (low_limbs _) sy' sz') ?_
  rintro v1 u1 l1 ⟨l, h1, h2, h3, h4⟩
  obtain ⟨a1, c1, rfl, hc1⟩ := h1.opn
  refine G.call0 _ _ (by kernel_rfl) Tryz.call172 (bigTrimB (b := b) h1 h2 (by omega)) ?_
  intro v2 u2 l2 h5
  rw [h3, val_limbs, val_limbs, hs] at h5
  obtain ⟨b5, a5, n5, c5, rfl, _, _⟩ := h5.opn
  exact G.ret (.agg #[.bool b5, .slice a5 n5 c5]) (by kernel_rfl) ⟨rfl, h5⟩
 ·rw [show (b == b') = false by simpa using hbb]
  have hne : decide (y < 0) ≠ decide (z < 0) := by rw [← hb, ← hb']; exact hbb
  refine G.call0 _ _ (by kernel_rfl) Tryz.call202 (bigSize0 hi hi' (by omega) (by omega)) ?_
  rintro v1 u1 l1 rfl
  by_cases hle : z.natAbs ≤ y.natAbs
  ·have hs := sgnd_sub1 (y := y) (z := z) hne hle
   rw [← hb] at hs
   refine G.geqT (sgn ((y.natAbs : Int) - z.natAbs)) 0 (by kernel_rfl) (by rcases Int.lt_trichotomy ((y.natAbs : Int) - z.natAbs) 0 with h | h | h <;> first | omega | (rw [h]; decide) | (rw [sgn_pos h]; decide)) ?_
   refine G.call0 _ _ (by kernel_rfl) Tryz.call207 (bigMinus0 (hi.mono l1) (hi'.mono l1) (low_limbs _) (low_limbs _) sy' (val_le_len hle) (by rw [val_limbs, val_limbs]; exact hle)) ?_
   rintro v1 u2 l2 ⟨l, h1, h2, h3, h4⟩
   obtain ⟨a1, c1, rfl, hc1⟩ := h1.opn
   refine G.call0 _ _ (by kernel_rfl) Tryz.call172 (bigTrimB (b := b) h1 h2 (by omega)) ?_
   intro v2 u2 l2 h5
   rw [h3, val_limbs, val_limbs, hs] at h5
   obtain ⟨b5, a5, n5, c5, rfl, _, _⟩ := h5.opn
   exact G.ret (.agg #[.bool b5, .slice a5 n5 c5]) (by kernel_rfl) ⟨rfl, h5⟩
  ·have hs := sgnd_sub2 (y := y) (z := z) hne (by omega)
   rw [← hb'] at hs
   refine G.geqF (sgn ((y.natAbs : Int) - z.natAbs)) 0 (by kernel_rfl) (by rw [sgn_neg (by omega)]; decide) ?_
   refine G.call0 _ _ (by kernel_rfl) Tryz.call207 (bigMinus0 (hi'.mono l1) (hi.mono l1) (low_limbs _) (low_limbs _) sz' (val_le_len (by omega)) (by rw [val_limbs, val_limbs]; omega)) ?_
   rintro v1 u2 l2 ⟨l, h1, h2, h3, h4⟩
   obtain ⟨a1, c1, rfl, hc1⟩ := h1.opn
   refine G.call0 _ _ (by kernel_rfl) Tryz.call172 (bigTrimB (b := b') h1 h2 (by omega)) ?_
   intro v2 u2 l2 h5
   rw [h3, val_limbs, val_limbs, hs] at h5
   obtain ⟨b5, a5, n5, c5, rfl, _, _⟩ := h5.opn
   exact G.ret (.agg #[.bool b5, .slice a5 n5 c5]) (by kernel_rfl) ⟨rfl, h5⟩
end Go.Proofs.YtpdboaedoimahaaGreatDoor
end
section
set_option linter.unusedSectionVars false
set_option linter.unusedVariables false
namespace Go.Proofs.YtpdboaedoimahaaGreatDoor
open Go.RowKit
theorem intsV_set (l : List Nat) (j n : Nat) : (intsV l).set j (.int .i64 (n : Int)) = intsV (l.set j n) := by simp [intsV, List.map_set]
theorem intsV_get {l : List Nat} {j : Nat} (h : j < l.length) : (intsV l)[j]? = some (.int .i64 (l.getD j 0 : Nat)) := by simp [intsV, h]
theorem intsV_zeros (n : Nat) : List.replicate n (Value.int .i64 0) = intsV (List.replicate n 0) := by simp [intsV]
theorem getD_app {l : List Nat} {j : Nat} (h : j < l.length) (r : List Nat) : (l ++ r).getD j 0 = l.getD j 0 := by
 rw [List.getD_eq_getElem?_getD, List.getD_eq_getElem?_getD, List.getElem?_append_left h]
theorem set_app {l : List Nat} {j : Nat} (h : j < l.length) (r : List Nat) (d : Nat) : (l ++ r).set j d = l.set j d ++ r := List.set_append_left _ _ h
theorem set_self {l : List Nat} {j : Nat} (h : j < l.length) (h0 : l.getD j 0 = 0) : l.set j 0 = l := by
 refine List.ext_getElem? fun i => ?_
 by_cases hi : j = i
 ·subst hi
  rw [List.getElem?_set_self h, List.getElem?_eq_getElem h]
  rw [List.getD_eq_getElem?_getD, List.getElem?_eq_getElem h] at h0
  simpa using h0.symm
 ·rw [List.getElem?_set_ne hi]
def MulIn (la lb : List Nat) (i k : Nat) (o : List Nat) (c : Nat) : Prop := (k ≤ lb.length ∧ MulSt la lb i k o c) ∨ (k = lb.length + 1 ∧ c = 0 ∧ MulSt la lb (i + 1) 0 o 0)
set_option maxHeartbeats 2000000 in
theorem bigMul0 {u : PH} {x x' : Value} {y z : Int} (hx : BigP u x y) (hx' : BigP u x' z) (sy : nl y.natAbs ≤ 1000000000000) (sz : nl z.natAbs ≤ 1000000000000) : Fn0 Tryz.prog 170 [x, x'] u fun v u' => BigP u' v (y * z) := by
 obtain ⟨b, a, n, c, rfl, hb, hi⟩ := hx.opn
 obtain ⟨b', a', n', c', rfl, hb', hi'⟩ := hx'.opn
 obtain ⟨rfl, _⟩ := hi.len
 obtain ⟨rfl, _⟩ := hi'.len
 have hll := low_limbs y.natAbs
 have hll' := low_limbs z.natAbs
 have sy' : (limbs y.natAbs).length ≤ 1000000000000 := sy
 have sz' : (limbs z.natAbs).length ≤ 1000000000000 := sz
 have hfin : ∀ l : List Nat, Low l → val l = y.natAbs * z.natAbs → sgnd (!(b == b')) (val l) = y * z := by
  intro l _ hv
  rw [hv, hb, hb']; exact sgnd_mul y z
 have hvy := val_limbs y.natAbs
 have hvz := val_limbs z.natAbs
 rw [← hvy, ← hvz] at hfin
 generalize limbs y.natAbs = la at *
 generalize limbs z.natAbs = lb at *
 refine Fn0.of Tryz.func170 (by kernel_rfl) (by kernel_rfl) ?_
 refine G.add (la.length : Int) (lb.length : Int) ((la.length + lb.length : Nat) : Int) (by kernel_rfl) (by omega) (by omega) (by omega) ?_
 refine G.add ((la.length + lb.length : Nat) : Int) 1 ((la.length + lb.length + 1 : Nat) : Int) (by kernel_rfl) (by omega) (by omega) (by omega) ?_
 refine G.make 3 1 8 (.int .i64 0) (la.length + lb.length + 1) (by kernel_rfl) rfl rfl (by omega) (by omega) (by omega) ?_
 intro vo m1 hA _
 rw [intsV_zeros] at hA
 obtain ⟨bo, co, rfl⟩ := hA.ptr (by intro e; have := congrArg List.length e; rw [intsV_length, List.length_replicate, List.length_nil] at this; omega)
 rw [intsV_length, List.length_replicate] at hA ⊢
 rw [show List.replicate (la.length + lb.length + 1) 0 = List.replicate (la.length + lb.length) 0 ++ [0] from List.replicate_succ' ..] at hA
 refine G.loop (ι := Nat × List Nat) (fun i => [(2, .p 0 0), (3, .p 1 0), (4, .p 2 0), (5, .v (.slice (some ⟨bo, 0, none⟩) (la.length + lb.length + 1) co)), (6, .v (.int .i64 (i.1 : Int)))])
  (fun _ => [(0, ⟨122, [.v (.bool b), .v (.slice a la.length c)]⟩), (1, ⟨122, [.v (.bool b'), .v (.slice a' lb.length c')]⟩), (2, ⟨122, [.v (.bool false), .v (.slice none 0 0)]⟩)])
  (fun i _ m' => i.1 ≤ la.length ∧ MulSt la lb i.1 0 i.2 0 ∧ ArrAt PH.mt m' (.slice (some ⟨bo, 0, none⟩) (la.length + lb.length + 1) co) 3 1 (intsV (i.2 ++ [0]))) (fun i => la.length - i.1) (0, List.replicate (la.length + lb.length) 0) (by kernel_rfl) (fun _ => by kernel_rfl) ⟨by kernel_rfl, by kernel_rfl, by kernel_rfl⟩
  ⟨by simp, MulSt.start _ _, hA⟩ ?_
 clear hA m1
 rintro J ⟨i, o⟩ hJ u' m' hle ⟨hk, hst, hA⟩
 simp only at hk hst hA hJ
 by_cases hlt : i < la.length
 ·refine G.lssT (i : Int) (la.length : Int) (by kernel_rfl) (by omega) ?_
  obtain ⟨ba, oa, rfl, ea⟩ := (hi.mono hle).at (j := i) hlt
  have hal := hll.getD i
  refine G.loop (ι := Nat × List Nat × Nat) (fun q => [(2, .p 0 0), (3, .p 1 0), (4, .p 2 0), (5, .v (.slice (some ⟨bo, 0, none⟩) (la.length + lb.length + 1) co)), (6, .v (.int .i64 (i : Int))), (7, .v (.int .i64 (q.2.2 : Int))), (8, .v (.int .i64 (q.1 : Int)))])
   (fun _ => [(0, ⟨122, [.v (.bool b), .v (.slice (some ⟨ba, oa, none⟩) la.length c)]⟩), (1, ⟨122, [.v (.bool b'), .v (.slice a' lb.length c')]⟩), (2, ⟨122, [.v (.bool false), .v (.slice none 0 0)]⟩)])
   (fun q _ m' => MulIn la lb i q.1 q.2.1 q.2.2 ∧ ArrAt PH.mt m' (.slice (some ⟨bo, 0, none⟩) (la.length + lb.length + 1) co) 3 1 (intsV (q.2.1 ++ [0]))) (fun q => lb.length + 1 - q.1) (0, o, 0) (by kernel_rfl) (fun _ => by kernel_rfl) ⟨by kernel_rfl, by kernel_rfl, by kernel_rfl⟩
   ⟨.inl ⟨by simp, hst⟩, hA⟩ ?_
  clear hA hst m'
  rintro J2 ⟨k, o, cc⟩ hJ2 u2 m' hle2 ⟨hin, hA⟩
  simp only at hin hA hJ2
  have hlo : o.length = la.length + lb.length := by rcases hin with ⟨_, h⟩ | ⟨_, _, h⟩ <;> exact h.len
  have hcc : cc < 1000000000 := by rcases hin with ⟨_, h⟩ | ⟨_, h, _⟩; exact h.carry; omega
  have hol := (show Low o by rcases hin with ⟨_, h⟩ | ⟨_, _, h⟩ <;> exact h.low).getD (i + k)
  by_cases hkb : k < lb.length
  ·have hst : MulSt la lb i k o cc := by rcases hin with ⟨_, h⟩ | ⟨h, _⟩; exact h; omega
   obtain ⟨bb, ob, rfl, eb⟩ := (hi'.mono (hle.trans hle2)).at (j := k) hkb
   have hbl := hll'.getD k
   have hikl : i + k < (o ++ [0]).length := by simp; omega
   refine G.lssT (k : Int) (lb.length : Int) (by kernel_rfl) (by omega) ?_
   refine G.add (i : Int) (k : Int) ((i + k : Nat) : Int) (by kernel_rfl) (by omega) (by omega) (by omega) ?_
   refine G.addr bo 0 (la.length + lb.length + 1) co (i + k) 1 (by kernel_rfl) (by omega) ?_
   refine G.loadM none bo (0 + (i + k) * 1) (.int .i64 ((o ++ [0]).getD (i + k) 0 : Nat)) (by kernel_rfl) (by kernel_rfl) (hA.el (intsV_get hikl)) ?_
   rw [getD_app (by omega)]
   refine G.add (cc : Int) (o.getD (i + k) 0 : Nat) ((cc + o.getD (i + k) 0 : Nat) : Int) (by kernel_rfl) (by omega) (by omega) (by omega) ?_
   refine G.lssT (k : Int) (lb.length : Int) (by kernel_rfl) (by omega) ?_
   refine G.addr ba oa la.length c i 1 (by kernel_rfl) hlt ?_
   refine G.loadU none ba (oa + i * 1) (.int .i64 (la.getD i 0 : Nat)) (by kernel_rfl) (by kernel_rfl) (ea.mono hle2) ?_
   refine G.addr bb ob lb.length c' k 1 (by kernel_rfl) hkb ?_
   refine G.loadU none bb (ob + k * 1) (.int .i64 (lb.getD k 0 : Nat)) (by kernel_rfl) (by kernel_rfl) eb ?_
   have hp : la.getD i 0 * lb.getD k 0 ≤ 999999999 * 999999999 := Nat.mul_le_mul (by omega) (by omega)
   refine G.mul (la.getD i 0 : Nat) (lb.getD k 0 : Nat) ((la.getD i 0 * lb.getD k 0 : Nat) : Int) (by kernel_rfl) (Int.natCast_mul _ _).symm (by omega) (by omega) ?_
   obtain ⟨t, ht⟩ : ∃ t, t = o.getD (i + k) 0 + la.getD i 0 * lb.getD k 0 + cc := ⟨_, rfl⟩
   refine G.add ((cc + o.getD (i + k) 0 : Nat) : Int) ((la.getD i 0 * lb.getD k 0 : Nat) : Int) (t : Int) (by kernel_rfl) (by omega) (by omega) (by omega) ?_
   refine G.add (i : Int) (k : Int) ((i + k : Nat) : Int) (by kernel_rfl) (by omega) (by omega) (by omega) ?_
   refine G.rem (t : Int) 1000000000 ((t % 1000000000 : Nat) : Int) (by kernel_rfl) (by omega) (by omega) (by omega) (by omega) ?_
   refine G.addr bo 0 (la.length + lb.length + 1) co (i + k) 1 (by kernel_rfl) (by omega) ?_
   refine G.storeA 1 PH.mt _ bo (la.length + lb.length + 1) co (i + k) (.int .i64 ((t % 1000000000 : Nat) : Int)) (by kernel_rfl) hA (by rw [intsV_length]; exact hikl) rfl rfl ?_
   intro m2 hA2
   rw [intsV_set, set_app (by omega)] at hA2
   refine G.quo (t : Int) 1000000000 ((t / 1000000000 : Nat) : Int) (by kernel_rfl) (by omega) (by omega) (by omega) (by omega) ?_
   refine G.add (k : Int) 1 ((k + 1 : Nat) : Int) (by kernel_rfl) (by omega) (by omega) (by omega) ?_
   exact G.back (by kernel_rfl) (hJ2 (k + 1, o.set (i + k) (t % 1000000000), t / 1000000000) _ _ _ ⟨by kernel_rfl, by kernel_rfl, by kernel_rfl⟩ hle2 ⟨.inl ⟨by omega, hst.step hll hll' hkb hlt rfl rfl rfl ht⟩, hA2⟩ (by dsimp only; omega))
  ·refine G.lssF (k : Int) (lb.length : Int) (by kernel_rfl) (by omega) ?_
   by_cases hc0 : 0 < cc
   ·have hst : MulSt la lb i lb.length o cc ∧ k = lb.length := by
     rcases hin with ⟨h1, h⟩ | ⟨_, h, _⟩
     ·obtain rfl : k = lb.length := by omega
      exact ⟨h, rfl⟩
     ·omega
    obtain ⟨hst, rfl⟩ := hst
    obtain ⟨hz0, hnext⟩ := hst.next hlt
    have hikl : i + lb.length < (o ++ [0]).length := by simp; omega
    refine G.gtrT (cc : Int) 0 (by kernel_rfl) (by omega) ?_
    refine G.add (i : Int) (lb.length : Int) ((i + lb.length : Nat) : Int) (by kernel_rfl) (by omega) (by omega) (by omega) ?_
    refine G.addr bo 0 (la.length + lb.length + 1) co (i + lb.length) 1 (by kernel_rfl) (by omega) ?_
    refine G.loadM none bo (0 + (i + lb.length) * 1) (.int .i64 ((o ++ [0]).getD (i + lb.length) 0 : Nat)) (by kernel_rfl) (by kernel_rfl) (hA.el (intsV_get hikl)) ?_
    rw [getD_app (by omega)]
    refine G.add (cc : Int) (o.getD (i + lb.length) 0 : Nat) (cc : Int) (by kernel_rfl) (by omega) (by omega) (by omega) ?_
    refine G.lssF (lb.length : Int) (lb.length : Int) (by kernel_rfl) (by omega) ?_
    refine G.add (i : Int) (lb.length : Int) ((i + lb.length : Nat) : Int) (by kernel_rfl) (by omega) (by omega) (by omega) ?_
    refine G.rem (cc : Int) 1000000000 (cc : Int) (by kernel_rfl) (by omega) (by omega) (by omega) (by omega) ?_
    refine G.addr bo 0 (la.length + lb.length + 1) co (i + lb.length) 1 (by kernel_rfl) (by omega) ?_
    refine G.storeA 1 PH.mt _ bo (la.length + lb.length + 1) co (i + lb.length) (.int .i64 (cc : Int)) (by kernel_rfl) hA (by rw [intsV_length]; exact hikl) rfl rfl ?_
    intro m2 hA2
    rw [intsV_set, set_app (by omega)] at hA2
    refine G.quo (cc : Int) 1000000000 0 (by kernel_rfl) (by omega) (by omega) (by omega) (by omega) ?_
    refine G.add (lb.length : Int) 1 ((lb.length + 1 : Nat) : Int) (by kernel_rfl) (by omega) (by omega) (by omega) ?_
    exact G.back (by kernel_rfl) (hJ2 (lb.length + 1, o.set (i + lb.length) cc, 0) _ _ _ ⟨by kernel_rfl, by kernel_rfl, by kernel_rfl⟩ hle2 ⟨.inr ⟨rfl, rfl, hnext⟩, hA2⟩ (by dsimp only; omega))
   ·refine G.gtrF (cc : Int) 0 (by kernel_rfl) (by omega) ?_
    have hst : MulSt la lb (i + 1) 0 o 0 := by
     rcases hin with ⟨h1, h⟩ | ⟨_, _, h⟩
     ·obtain rfl : k = lb.length := by omega
      obtain rfl : cc = 0 := by omega
      obtain ⟨hz0, hnext⟩ := h.next hlt
      rw [set_self (by omega) hz0] at hnext
      exact hnext
     ·exact h
    refine G.add (i : Int) 1 ((i + 1 : Nat) : Int) (by kernel_rfl) (by omega) (by omega) (by omega) ?_
    exact G.back (by kernel_rfl) (hJ (i + 1, o) _ _ _ ⟨by kernel_rfl, by kernel_rfl, by kernel_rfl⟩ (hle.trans hle2) ⟨by omega, hst, hA⟩ (by dsimp only; omega))
 ·obtain rfl : i = la.length := by omega
  refine G.lssF (la.length : Int) (la.length : Int) (by kernel_rfl) (by omega) ?_
  refine G.give PH.mt (intsV (o ++ [0])) _ (by kernel_rfl) hA (fun _ => .inl rfl) ?_
  intro u1 l1 hL
  have hlow : Low (o ++ [0]) := hst.low.append (Low.cons (by omega) Low.nil)
  have hval : val (o ++ [0]) = val la * val lb := by rw [val_snoc, Nat.mul_zero, Nat.add_zero]; exact hst.done
  have hlo := hst.len
  refine G.neB b b' (by kernel_rfl) ?_
  refine G.call0 _ _ (by kernel_rfl) Tryz.call172 (bigTrimB (b := !(b == b')) hL hlow (by simp; omega)) ?_
  intro v2 u2 l2 h5
  rw [hfin _ hlow hval] at h5
  obtain ⟨b5, a5, n5, c5, rfl, _, _⟩ := h5.opn
  exact G.ret (.agg #[.bool b5, .slice a5 n5 c5]) (by kernel_rfl) ⟨rfl, h5⟩
end Go.Proofs.YtpdboaedoimahaaGreatDoor
end
section
namespace Go.Proofs.YtpdboaedoimahaaGreatDoor
structure TimesSt (a : List Nat) (n k : Nat) (ys : List Nat) (c : Nat) : Prop where
 len : ys.length = k
 low : Low ys
 carry : c < 1000000000
 sum : val ys + 1000000000 ^ k * c = val (a.take k) * n
theorem TimesSt.start (a : List Nat) (n : Nat) : TimesSt a n 0 [] 0 := ⟨rfl, Low.nil, by omega, by simp [val]⟩
theorem TimesSt.step {a ys : List Nat} {n k c t : Nat} (h : TimesSt a n k ys c) (ha : Low a) (hn : n < 1000000000) (ht : t = c + a.getD k 0 * n) : TimesSt a n (k + 1) (ys ++ [t % 1000000000]) (t / 1000000000) := by
 have h1 := ha.getD k
 have h2 := h.carry
 have hp : a.getD k 0 * n ≤ 999999999 * 999999999 := Nat.mul_le_mul (by omega) (by omega)
 refine ⟨by simp [h.len], h.low.append (Low.cons (by omega) Low.nil), by omega, ?_⟩
 rw [val_snoc, val_take_succ, h.len, Nat.pow_succ, Nat.add_assoc, carry_split, Nat.add_mul]
 have := h.sum
 rw [ht, Nat.mul_add, ← Nat.add_assoc, this, Nat.mul_assoc]
theorem TimesSt.over {a ys : List Nat} {n k c : Nat} (h : TimesSt a n k ys c) (hk : ¬ k < a.length) (hc : c = 0) : val ys = val a * n := by
 have := h.sum
 rw [List.take_of_length_le (by omega), hc] at this
 simpa using this
structure QuoSt (lx : List Nat) (Y k : Nat) (qs : List Nat) (R : Nat) : Prop where
 len : qs.length = lx.length
 low : Low qs
 quo : val (qs.drop k) = val (lx.drop k) / Y
 rest : R = val (lx.drop k) % Y
theorem QuoSt.start (lx : List Nat) (Y : Nat) : QuoSt lx Y lx.length (List.replicate lx.length 0) 0 := by
 refine ⟨by simp, Low.zeros _, ?_, ?_⟩
 ·rw [List.drop_of_length_le (by simp), List.drop_of_length_le (by omega)]; simp [val]
 ·rw [List.drop_of_length_le (by omega)]; simp [val]
theorem quo_digit {R Y x : Nat} (hR : R < Y) (hx : x < 1000000000) : (x + 1000000000 * R) / Y < 1000000000 := by
 rw [Nat.div_lt_iff_lt_mul (by omega)]
 have : 1000000000 * (R + 1) ≤ 1000000000 * Y := Nat.mul_le_mul_left _ hR
 omega
theorem QuoSt.step {lx qs : List Nat} {Y k R : Nat} (h : QuoSt lx Y (k + 1) qs R) (hx : Low lx) (hk : k < lx.length) (hY : 0 < Y) :
  QuoSt lx Y k (qs.set k ((lx.getD k 0 + 1000000000 * R) / Y)) ((lx.getD k 0 + 1000000000 * R) % Y) := by
 have hR : R < Y := by rw [h.rest]; exact Nat.mod_lt _ hY
 have hl := h.len
 have e1 : (qs.set k ((lx.getD k 0 + 1000000000 * R) / Y)).drop k = (lx.getD k 0 + 1000000000 * R) / Y :: qs.drop (k + 1) := by
  rw [drop_getD _ k (by simp; omega), List.drop_set_of_lt (by omega)]
  congr 1
  rw [List.getD_eq_getElem?_getD, List.getElem?_set_self (by omega)]; rfl
 have e2 := drop_getD lx k hk
 have e3 : val (lx.drop k) = lx.getD k 0 + 1000000000 * R + Y * (1000000000 * (val (lx.drop (k + 1)) / Y)) := by
  rw [e2]; simp only [val]
  have := Nat.div_add_mod (val (lx.drop (k + 1))) Y
  rw [← h.rest] at this
  have e4 : 1000000000 * val (lx.drop (k + 1)) = 1000000000 * (Y * (val (lx.drop (k + 1)) / Y)) + 1000000000 * R := by rw [← Nat.mul_add, this]
  rw [e4, Nat.mul_left_comm Y 1000000000]; omega
 refine ⟨by simpa using hl, h.low.set _ (quo_digit hR (hx.getD k)), ?_, ?_⟩
 ·rw [e1, e3, Nat.add_mul_div_left _ _ hY]; simp only [val]; rw [h.quo]
 ·rw [e3, Nat.add_mul_mod_self_left]
theorem quo_est {Y R y1 p yl top rl : Nat} (hY : Y = y1 * p + yl) (hyl : yl < p) (hy1 : 0 < y1) (hR : R = top * p + rl) (hrl : rl < p) : top / (y1 + 1) ≤ R / Y ∧ R / Y ≤ top / y1 := by
 have hp : 0 < p := by omega
 have hY0 : 0 < Y := by have := Nat.mul_pos hy1 hp; omega
 constructor
 ·rw [Nat.le_div_iff_mul_le hY0]
  have h1 : Y ≤ (y1 + 1) * p := by rw [Nat.add_mul]; omega
  have h2 : top / (y1 + 1) * (y1 + 1) ≤ top := Nat.div_mul_le_self _ _
  calc top / (y1 + 1) * Y ≤ top / (y1 + 1) * ((y1 + 1) * p) := Nat.mul_le_mul_left _ h1
   _ = top / (y1 + 1) * (y1 + 1) * p := by rw [Nat.mul_assoc]
   _ ≤ top * p := Nat.mul_le_mul_right _ h2
   _ ≤ R := by omega
 ·rw [Nat.le_div_iff_mul_le hy1]
  have h1 : R / Y * Y ≤ R := Nat.div_mul_le_self _ _
  have h2 : R / Y * (y1 * p) ≤ R / Y * Y := Nat.mul_le_mul_left _ (by omega)
  have h3 : R / Y * y1 * p < (top + 1) * p := by rw [Nat.mul_assoc, Nat.add_mul]; omega
  exact Nat.le_of_lt_succ (Nat.lt_of_mul_lt_mul_right h3)
theorem top_of (R n : Nat) (hn : 0 < n) (hl : (limbs R).length ≤ n + 1) (hl2 : n ≤ (limbs R).length) :
  ∃ rl, R = ((limbs R).getD (n - 1) 0 + (limbs R).getD n 0 * 1000000000) * 1000000000 ^ (n - 1) + rl ∧ rl < 1000000000 ^ (n - 1) := by
 refine ⟨val ((limbs R).take (n - 1)), ?_, ?_⟩
 ·have h := val_split (limbs R) (n - 1) (by omega)
  rw [val_limbs] at h
  have hd := drop_getD (limbs R) (n - 1) (by omega)
  rw [show n - 1 + 1 = n by omega] at hd
  rcases Nat.lt_or_ge n (limbs R).length with h1 | h1
  ·have hd2 := drop_getD (limbs R) n h1
   rw [List.drop_of_length_le (show (limbs R).length ≤ n + 1 by omega)] at hd2
   rw [hd, hd2] at h
   simp only [val, Nat.mul_zero, Nat.add_zero] at h
   rw [Nat.mul_comm _ (1000000000 ^ (n - 1)), Nat.mul_comm ((limbs R).getD n 0)]
   omega
  ·rw [List.drop_of_length_le h1] at hd
   rw [hd] at h
   simp only [val] at h
   have h0 : (limbs R).getD n 0 = 0 := by rw [List.getD_eq_getElem?_getD, List.getElem?_eq_none h1]; rfl
   rw [h0, Nat.mul_comm _ (1000000000 ^ (n - 1))]
   simp only [Nat.zero_mul, Nat.mul_zero, Nat.add_zero] at h ⊢
   omega
 ·have := val_lt ((low_limbs R).take (n - 1))
  rwa [List.length_take, Nat.min_eq_left (by omega)] at this
end Go.Proofs.YtpdboaedoimahaaGreatDoor
end
section
set_option linter.unusedSectionVars false
set_option linter.unusedSimpArgs false
namespace Go.Proofs.YtpdboaedoimahaaGreatDoor
variable [Flag]
open Go.RowKit
section rules
variable {P : Program} [Mixed P] {fn : Func} {Post : Spec} {st : List KI × S} {u m : PH}
theorem ListP.els {sz : Nat} {es : List Value} {b off n c : Nat} (h : ListP u (.slice (some ⟨b, off, none⟩) n c) sz es) : ElsP u b off sz es := by
 obtain ⟨a', c', h1, h2, h3⟩ := h
 simp at h1; obtain ⟨rfl, _, rfl⟩ := h1
 intro j e hj
 obtain ⟨b', off', e1, e2⟩ := h3 j e hj
 simp at e1; obtain ⟨rfl, rfl⟩ := e1; exact e2
theorem G.append0 (e : TypeId) (sz bt : Nat) (z : Value) (a a' : Option Addr) (n c c' : Nat) (h : stopV P (adv P st) = .app (some (e, sz, bt, z)) true [.slice a n c, .slice a' 0 c']) (hc : n ≤ c)
  (k : G P fn Post (nx (adv P st) (.slice a n c)) u m) : G P fn Post st u m := by
 refine G.big (K := fun v' u' m' => u' = u ∧ m' = m ∧ v' = .slice a n c) h (by simp) (fun env op hv => (view_app (P := P) (o := ⟨none, op, 0, "", #[], none⟩) hv).2.1) (.inl fun v u' m' hk => by rw [hk.2.1]; exact PH.le_refl _) (fun env o hview w hgd => ?_) (fun v' u' m' _ hk => ?_)
 ·obtain ⟨_, _, t, hi, hex⟩ := view_app (P := P) hview
  obtain ⟨hu, i, hi1, hi2, hi3, hi4⟩ := elInfo_spec hi
  have hr : (Builtin.append_ #[t, t] o.type #[.slice a n c, .slice a' 0 c']).run P w = .ok (.slice a n c) w := by
   cases a <;> cases a' <;> simp [Builtin.append_, run_underlying hu, sizeOf, typeInfo, hi1, Builtin.lenOf, Builtin.firstCells, loadCells, loadCellsFrom, hc, storeCells]
  exact does_value (by rw [hex, hr]; rfl) ⟨u, m, hgd, Grown.refl _ _ _, rfl, rfl, rfl⟩
 ·obtain ⟨rfl, rfl, rfl⟩ := hk
  exact k
theorem G.appendU (e : TypeId) (sz bt : Nat) (z : Value) (es xs : List Value) (a : Option Addr) (n' b off n c : Nat) (h : stopV P (adv P st) = .app (some (e, sz, bt, z)) true [.slice a n' n', .slice (some ⟨b, off, none⟩) n c]) (hsz : 0 < sz)
  (ha : ListP u (.slice a n' n') sz es) (hoe : ElsOK sz es) (hx : ElsP u b off sz xs) (ho : ElsOK sz xs) (hn : xs.length = n) (hn0 : 0 < n) (hb : (es.length + n) * bt ≤ 140737488355328) (hb2 : es.length + n ≤ 9223372036854775807)
  (k : ∀ v' u', PH.le u u' → ListP u' v' sz (es ++ xs) → G P fn Post (nx (adv P st) v') u' m) : G P fn Post st u m := by
 refine G.big (K := fun v' u' m' => m' = m ∧ ListP u' v' sz (es ++ xs)) h (by simp) (fun env op hv => (view_app (P := P) (o := ⟨none, op, 0, "", #[], none⟩) hv).2.1) (.inl fun v u' m' hk => by rw [hk.1]; exact PH.le_refl _) (fun env o hview w hgd => ?_) (fun v' u' m' hle hk => ?_)
 ·obtain ⟨_, _, t, hi, hex⟩ := view_app (P := P) hview
  obtain ⟨hu, i, hi1, hi2, rfl, rfl⟩ := elInfo_spec hi
  have hsrc := hx.cells hsz ho hgd.pu
  have hfl := flat_length ho
  have hfe := flat_length hoe
  obtain ⟨a1, c1, e1, e2, e3⟩ := id ha
  simp only [Value.slice.injEq] at e1
  obtain ⟨rfl, rfl, rfl⟩ := e1
  have key : ∀ (cap : Nat) (rest : List Value), es.length + n ≤ cap → ListP (u.upd w.heap.size (.cells (flat (es ++ xs) ++ rest).toArray e (0, 0))) (.slice (some ⟨w.heap.size, 0, none⟩) (es.length + n) cap) i.size (es ++ xs) := by
   intro cap rest hcap
   refine ⟨_, cap, by simp [hn], by simp [hn]; exact hcap, fun j x hj => ⟨_, 0, rfl, fun ii y hy => ⟨_, _, _, upd_same _ _ _, ?_⟩⟩⟩
   rw [List.getElem?_toArray, Nat.zero_add]
   have := flat_get (hoe.append ho) hj hy
   rw [List.getElem?_append_left (by obtain ⟨h, _⟩ := List.getElem?_eq_some_iff.1 this; exact h)]; exact this
  rcases Nat.eq_zero_or_pos es.length with h0 | h0
  ·have : es = [] := List.eq_nil_of_length_eq_zero h0
   subst this
   simp only [List.length_nil, Nat.zero_add] at hb hb2
   have hr : ∃ v w', (Builtin.append_ #[t, t] o.type #[.slice a 0 0, .slice (some ⟨b, off, none⟩) n c]).run P w = .ok v w' ∧ v = .slice (some ⟨w.heap.size, 0, none⟩) n (grownCap w n 0 e) ∧ w' = w.drew.alloc (.cells (flat xs ++ (Builtin.zeroCells z.cells (grownCap w n 0 e - n)).toList).toArray e) := by
    cases a with
    | none =>
     refine ⟨_, _, run_append_nil (P := P) w t o.type e i z hu hi1 hi2 ⟨b, off, none⟩ n c (flat xs) (by rw [hfl, hn]) hsrc hn0 (by omega) (by omega), rfl, ?_⟩
     congr 2; apply Array.ext'; simp
    | some a =>
     have := run_append_grow (P := P) w t o.type e i z hu hi1 hi2 a 0 0 [] (by simp) (by simp) ⟨b, off, none⟩ n c (flat xs) (by rw [hfl, hn]) hsrc (by omega) (by omega) (growslice_fits (by omega) (by rw [Nat.zero_add]; omega))
     simp only [Nat.zero_add] at this
     refine ⟨_, _, this, rfl, ?_⟩
     congr 2; apply Array.ext'; simp
   obtain ⟨v, w', hr, rfl, rfl⟩ := hr
   obtain ⟨g1, g2, g3, g4⟩ := hgd.drew'.newU (.cells (flat xs ++ (Builtin.zeroCells z.cells (grownCap w n 0 e - n)).toList).toArray e (0, 0))
   have := key (grownCap w n 0 e) (Builtin.zeroCells z.cells (grownCap w n 0 e - n)).toList (by simpa using grownCap_ge w n 0 e)
   simp only [List.nil_append, List.length_nil, Nat.zero_add] at this
   exact does_value (by rw [hex]; simp only [List.length_nil]; rw [hr]; rfl) ⟨_, m, g1, ⟨g2.sz, g2.old, g2.us, g2.ms, g2.io, fun f => ⟨(g2.dr f).tape, Nat.le_of_succ_le (g2.dr f).dr⟩⟩, rfl, this⟩
  ·obtain ⟨be, oe, rfl, _⟩ := e3 0 es[0] (by simp)
   have hold := ElsP.cells hsz ha.els hoe hgd.pu
   have hr := run_append_grow (P := P) w t o.type e i z hu hi1 hi2 ⟨be, oe, none⟩ es.length es.length (flat es) hfe hold ⟨b, off, none⟩ n c (flat xs) (by rw [hfl, hn]) hsrc (by omega) (by omega) (growslice_fits (by omega) hb)
   have ew : (flat es).toArray ++ (flat xs).toArray ++ Builtin.zeroCells z.cells (grownCap w (es.length + n) es.length e - (es.length + n)) = (flat (es ++ xs) ++ (Builtin.zeroCells z.cells (grownCap w (es.length + n) es.length e - (es.length + n))).toList).toArray := by
    apply Array.ext'; simp [flat_append]
   rw [ew] at hr
   obtain ⟨g1, g2, g3, g4⟩ := hgd.drew'.newU (.cells (flat (es ++ xs) ++ (Builtin.zeroCells z.cells (grownCap w (es.length + n) es.length e - (es.length + n))).toList).toArray e (0, 0))
   exact does_value (by rw [hex, show ([Value.slice (some ⟨be, oe, none⟩) es.length es.length, Value.slice (some ⟨b, off, none⟩) n c]).toArray = #[.slice (some ⟨be, oe, none⟩) es.length es.length, .slice (some ⟨b, off, none⟩) n c] from rfl, hr]; rfl) ⟨_, m, g1, ⟨g2.sz, g2.old, g2.us, g2.ms, g2.io, fun f => ⟨(g2.dr f).tape, Nat.le_of_succ_le (g2.dr f).dr⟩⟩, rfl, key _ _ (grownCap_ge w _ _ e)⟩
 ·obtain ⟨rfl, hk⟩ := hk
  exact k v' u' hle hk
theorem G.appendV (e : TypeId) (sz bt : Nat) (z : Value) (es xs : List Value) (a : Option Addr) (n' : Nat) (ax : Option Addr) (n c : Nat) (h : stopV P (adv P st) = .app (some (e, sz, bt, z)) true [.slice a n' n', .slice ax n c]) (hsz : 0 < sz)
  (ha : ListP u (.slice a n' n') sz es) (hoe : ElsOK sz es) (hx : ListP u (.slice ax n c) sz xs) (ho : ElsOK sz xs) (hb : (es.length + xs.length) * bt ≤ 140737488355328) (hb2 : es.length + xs.length ≤ 9223372036854775807)
  (k : ∀ v' u', PH.le u u' → ListP u' v' sz (es ++ xs) → G P fn Post (nx (adv P st) v') u' m) : G P fn Post st u m := by
 obtain ⟨ax', c', e1, e2, e3⟩ := id hx
 simp only [Value.slice.injEq] at e1
 obtain ⟨rfl, rfl, rfl⟩ := e1
 rcases Nat.eq_zero_or_pos xs.length with h0 | h0
 ·have : xs = [] := List.eq_nil_of_length_eq_zero h0
  subst this
  exact G.append0 e sz bt z a ax n' n' c h (Nat.le_refl _) (k _ u (PH.le_refl _) (by rw [List.append_nil]; exact ha))
 ·obtain ⟨bx, ox, rfl, _⟩ := e3 0 xs[0] (by simp)
  exact G.appendU e sz bt z es xs a n' bx ox xs.length c h hsz ha hoe hx.els ho rfl h0 hb hb2 k
end rules
end Go.Proofs.YtpdboaedoimahaaGreatDoor
end
section
set_option linter.unusedSectionVars false
set_option linter.unusedVariables false
namespace Go.Proofs.YtpdboaedoimahaaGreatDoor
open Go.RowKit
theorem BigP.lim {u : PH} {b : Bool} {a : Option Addr} {n c k : Nat} (h : BigP u (.agg #[.bool b, .slice a n c]) (sgnd false k)) : IntsP u (.slice a n c) (limbs k) := by
 obtain ⟨_, _, _, h1, h2⟩ := h
 simp only [Value.agg.injEq, Array.mk.injEq, List.cons.injEq, Value.bool.injEq, Value.slice.injEq, and_true] at h1
 obtain ⟨_, rfl, rfl, rfl⟩ := h1
 rw [sgnd_natAbs] at h2; exact h2
set_option maxHeartbeats 1000000 in
theorem bigTimes0 {u : PH} {va : Value} {la : List Nat} {n : Nat} (ha : IntsP u va la) (lla : Low la) (sa : la.length ≤ 1000000000000) (hn : n < 1000000000) :
  Fn0 Tryz.prog 231 [va, .int .i64 (n : Int)] u fun v u' => IntsP u' v (limbs (val la * n)) := by
 obtain ⟨a, ca, rfl, hca⟩ := ha.opn
 refine Fn0.of Tryz.func231 (by kernel_rfl) (by kernel_rfl) ?_
 refine G.loop (ι := Nat × List Nat × Nat × Value) (fun i => [(0, .v (.slice a la.length ca)), (1, .v (.int .i64 (n : Int))), (5, .v i.2.2.2), (6, .v (.int .i64 (i.2.2.1 : Int))), (7, .v (.int .i64 (i.1 : Int)))]) (fun _ => [])
  (fun i _ m' => (i.1 ≤ la.length + 1 ∧ (la.length + 1 ≤ i.1 → i.2.2.1 = 0)) ∧ ArrAt PH.mt m' i.2.2.2 3 1 (intsV i.2.1) ∧ TimesSt la n i.1 i.2.1 i.2.2.1) (fun i => la.length + 2 - i.1) (0, [], 0, .slice none 0 0) (by kernel_rfl) (fun _ => by kernel_rfl) ⟨by kernel_rfl, by kernel_rfl, by kernel_rfl⟩
  ⟨⟨by simp, fun _ => rfl⟩, ArrAt.nil _ _ _, TimesSt.start _ _⟩ ?_
 rintro J ⟨k, ys, c, vo⟩ hJ u' m' hle ⟨hk, hA, hst⟩
 simp only at hk hA hst hJ
 have hc1 := hst.carry
 have hal := lla.getD k
 have hp : la.getD k 0 * n ≤ 999999999 * 999999999 := Nat.mul_le_mul (by omega) (by omega)
 obtain ⟨ao, co, rfl⟩ := hA.shape
 obtain ⟨vo, hvo⟩ : ∃ vo, vo = Value.slice ao (intsV ys).length co := ⟨_, rfl⟩
 rw [← hvo] at hA ⊢
 obtain ⟨t, ht⟩ : ∃ t, t = c + la.getD k 0 * n := ⟨_, rfl⟩
 have hstep := hst.step lla hn ht
 by_cases hka : k < la.length
 ·refine G.lssT (k : Int) (la.length : Int) (by kernel_rfl) (by omega) ?_
  refine G.lssT (k : Int) (la.length : Int) (by kernel_rfl) (by omega) ?_
  obtain ⟨ba, oa, rfl, ea⟩ := (ha.mono hle).at (j := k) hka
  refine G.addr ba oa la.length ca k 1 (by kernel_rfl) hka ?_
  refine G.loadU none ba (oa + k * 1) (.int .i64 (la.getD k 0 : Nat)) (by kernel_rfl) (by kernel_rfl) ea ?_
  refine G.mul (la.getD k 0 : Nat) (n : Int) ((la.getD k 0 * n : Nat) : Int) (by kernel_rfl) (Int.natCast_mul _ _).symm (by omega) (by omega) ?_
  refine G.add (c : Int) ((la.getD k 0 * n : Nat) : Int) (t : Int) (by kernel_rfl) (by omega) (by omega) (by omega) ?_
  refine G.rem (t : Int) 1000000000 ((t % 1000000000 : Nat) : Int) (by kernel_rfl) (by omega) (by omega) (by omega) (by omega) ?_
  refine G.buildU 3 1 8 (.int .i64 0) [.int .i64 ((t % 1000000000 : Nat) : Int)] (by kernel_rfl) (intsV_ok [t % 1000000000]) rfl (by omega) (by simp) (by simp) ?_
  intro g u1 l1 e1
  refine G.append 3 1 8 (.int .i64 0) PH.mt (intsV ys) [.int .i64 ((t % 1000000000 : Nat) : Int)] vo g 0 1 1 (by kernel_rfl) rfl rfl (by omega) hA e1 (intsV_ok [t % 1000000000]) rfl (by omega) (by rw [intsV_length, hst.len]; omega) (by rw [intsV_length, hst.len]; omega) ?_
  intro v2 m2 hA2
  rw [intsV_snoc] at hA2
  refine G.quo (t : Int) 1000000000 ((t / 1000000000 : Nat) : Int) (by kernel_rfl) (by omega) (by omega) (by omega) (by omega) ?_
  refine G.add (k : Int) 1 ((k + 1 : Nat) : Int) (by kernel_rfl) (by omega) (by omega) (by omega) ?_
  exact G.back (by kernel_rfl) (hJ (k + 1, ys ++ [t % 1000000000], t / 1000000000, v2) _ _ _ ⟨by kernel_rfl, by kernel_rfl, by kernel_rfl⟩ (hle.trans l1) ⟨⟨by omega, by dsimp only; omega⟩, hA2, hstep⟩ (by dsimp only; omega))
 ·have hz := getD_past hka
  rw [hz, Nat.zero_mul, Nat.add_zero] at ht
  subst ht
  refine G.lssF (k : Int) (la.length : Int) (by kernel_rfl) (by omega) ?_
  by_cases hc0 : 0 < t
  ·refine G.gtrT (t : Int) 0 (by kernel_rfl) (by omega) ?_
   refine G.lssF (k : Int) (la.length : Int) (by kernel_rfl) (by omega) ?_
   refine G.rem (t : Int) 1000000000 ((t % 1000000000 : Nat) : Int) (by kernel_rfl) (by omega) (by omega) (by omega) (by omega) ?_
   refine G.buildU 3 1 8 (.int .i64 0) [.int .i64 ((t % 1000000000 : Nat) : Int)] (by kernel_rfl) (intsV_ok [t % 1000000000]) rfl (by omega) (by simp) (by simp) ?_
   intro g u1 l1 e1
   refine G.append 3 1 8 (.int .i64 0) PH.mt (intsV ys) [.int .i64 ((t % 1000000000 : Nat) : Int)] vo g 0 1 1 (by kernel_rfl) rfl rfl (by omega) hA e1 (intsV_ok [t % 1000000000]) rfl (by omega) (by rw [intsV_length, hst.len]; omega) (by rw [intsV_length, hst.len]; omega) ?_
   intro v2 m2 hA2
   rw [intsV_snoc] at hA2
   refine G.quo (t : Int) 1000000000 ((t / 1000000000 : Nat) : Int) (by kernel_rfl) (by omega) (by omega) (by omega) (by omega) ?_
   refine G.add (k : Int) 1 ((k + 1 : Nat) : Int) (by kernel_rfl) (by omega) (by omega) (by omega) ?_
   exact G.back (by kernel_rfl) (hJ (k + 1, ys ++ [t % 1000000000], t / 1000000000, v2) _ _ _ ⟨by kernel_rfl, by kernel_rfl, by kernel_rfl⟩ (hle.trans l1) ⟨⟨by omega, by dsimp only; omega⟩, hA2, hstep⟩ (by dsimp only; omega))
  ·refine G.gtrF (t : Int) 0 (by kernel_rfl) (by omega) ?_
   refine G.give PH.mt (intsV ys) vo (by kernel_rfl) hA (fun _ => .inl rfl) ?_
   intro u1 l1 hL
   have hyl := hst.len
   subst hvo
   refine G.call0 _ _ (by kernel_rfl) Tryz.call172 (bigTrimB (b := false) hL hst.low (by omega)) ?_
   intro v2 u2 l2 h5
   rw [hst.over hka (by omega)] at h5
   obtain ⟨b5, a5, n5, c5, rfl, _, _⟩ := h5.opn
   exact G.ret (.slice a5 n5 c5) (by kernel_rfl) ⟨rfl, h5.lim⟩
end Go.Proofs.YtpdboaedoimahaaGreatDoor
end
section
set_option linter.unusedSectionVars false
set_option linter.unusedVariables false
namespace Go.Proofs.YtpdboaedoimahaaGreatDoor
open Go.RowKit
theorem tdiv_nat (m n : Nat) : ((m : Int)).tdiv n = ((m / n : Nat) : Int) := rfl
theorem tmod_nat (m n : Nat) : ((m : Int)).tmod n = ((m % n : Nat) : Int) := rfl
theorem tdiv_sgnd (y z : Int) : sgnd (!(decide (y < 0) == decide (z < 0))) (y.natAbs / z.natAbs) = y.tdiv z := by
 unfold sgnd
 rcases Int.lt_or_le y 0 with hy | hy <;> rcases Int.lt_or_le z 0 with hz | hz
 ·rw [decide_eq_true hy, decide_eq_true hz]
  obtain ⟨m, rfl⟩ : ∃ m : Nat, y = -(m : Int) := ⟨y.natAbs, by omega⟩
  obtain ⟨n, rfl⟩ : ∃ n : Nat, z = -(n : Int) := ⟨z.natAbs, by omega⟩
  rw [Int.neg_tdiv, Int.tdiv_neg, Int.neg_neg, tdiv_nat, Int.natAbs_neg, Int.natAbs_neg]; rfl
 ·rw [decide_eq_true hy, decide_eq_false (show ¬ z < 0 by omega)]
  obtain ⟨m, rfl⟩ : ∃ m : Nat, y = -(m : Int) := ⟨y.natAbs, by omega⟩
  obtain ⟨n, rfl⟩ : ∃ n : Nat, z = (n : Int) := ⟨z.natAbs, by omega⟩
  rw [Int.neg_tdiv, tdiv_nat, Int.natAbs_neg]; rfl
 ·rw [decide_eq_false (show ¬ y < 0 by omega), decide_eq_true hz]
  obtain ⟨m, rfl⟩ : ∃ m : Nat, y = (m : Int) := ⟨y.natAbs, by omega⟩
  obtain ⟨n, rfl⟩ : ∃ n : Nat, z = -(n : Int) := ⟨z.natAbs, by omega⟩
  rw [Int.tdiv_neg, tdiv_nat, Int.natAbs_neg]; rfl
 ·rw [decide_eq_false (show ¬ y < 0 by omega), decide_eq_false (show ¬ z < 0 by omega)]
  obtain ⟨m, rfl⟩ : ∃ m : Nat, y = (m : Int) := ⟨y.natAbs, by omega⟩
  obtain ⟨n, rfl⟩ : ∃ n : Nat, z = (n : Int) := ⟨z.natAbs, by omega⟩
  rw [tdiv_nat]; rfl
theorem tmod_sgnd (y z : Int) : sgnd (decide (y < 0)) (y.natAbs % z.natAbs) = y.tmod z := by
 unfold sgnd
 have hn : ∀ m : Nat, ((m : Int)).tmod z = ((m % z.natAbs : Nat) : Int) := by
  intro m
  rcases Int.lt_or_le z 0 with hz | hz
  ·obtain ⟨n, rfl⟩ : ∃ n : Nat, z = -(n : Int) := ⟨z.natAbs, by omega⟩
   rw [Int.tmod_neg, tmod_nat, Int.natAbs_neg]; rfl
  ·obtain ⟨n, rfl⟩ : ∃ n : Nat, z = (n : Int) := ⟨z.natAbs, by omega⟩
   rw [tmod_nat]; rfl
 rcases Int.lt_or_le y 0 with hy | hy
 ·rw [decide_eq_true hy]
  obtain ⟨m, rfl⟩ : ∃ m : Nat, y = -(m : Int) := ⟨y.natAbs, by omega⟩
  rw [Int.neg_tmod, hn, Int.natAbs_neg]; rfl
 ·rw [decide_eq_false (show ¬ y < 0 by omega)]
  obtain ⟨m, rfl⟩ : ∃ m : Nat, y = (m : Int) := ⟨y.natAbs, by omega⟩
  rw [hn]; rfl
theorem top_ne {n : Nat} (h : n ≠ 0) : 0 < (limbs n).getD ((limbs n).length - 1) 0 := by
 have h1 := limbs_trim (low_limbs n)
 rw [val_limbs] at h1
 have h2 := congrArg List.length h1
 rw [List.length_take] at h2
 have hp : 0 < (limbs n).length := len_pos.2 (by omega)
 have h3 := trimTo_le (limbs n) (limbs n).length
 have h4 := trimTo_last (limbs n) (limbs n).length (by omega)
 rw [show trimTo (limbs n) (limbs n).length = (limbs n).length by omega] at h4
 omega
theorem sgn_le {z : Int} (h : z ≤ 0) : sgn z ≤ 0 := by
 rcases Int.lt_trichotomy z 0 with h1 | h1 | h1
 ·rw [sgn_neg h1]; decide
 ·rw [h1]; decide
 ·omega
theorem sgn_ge {z : Int} (h : 0 ≤ z) : 0 ≤ sgn z := by
 rcases Int.lt_trichotomy z 0 with h1 | h1 | h1
 ·omega
 ·rw [h1]; decide
 ·rw [sgn_pos h1]; decide
theorem one_int (g : Nat) (u : PH) (x : Nat) (e : ElsP u g 0 1 [.int .i64 (x : Int)]) : ListP u (.slice (some ⟨g, 0, none⟩) 1 1) 1 (intsV [x]) := ⟨_, 1, rfl, by simp [intsV], fun j v hj => ⟨g, 0, rfl, e j v hj⟩⟩
theorem intsV_cons (x : Nat) (l : List Nat) : intsV [x] ++ intsV l = intsV (x :: l) := rfl
structure Find (Y R lo hi : Nat) : Prop where
 a : lo ≤ R / Y
 b : R / Y ≤ hi
 c : hi ≤ 999999999
theorem Find.up {Y R lo hi mid : Nat} (h : Find Y R lo hi) (hY : 0 < Y) (hm : Y * mid ≤ R) : Find Y R mid hi := ⟨by rw [Nat.le_div_iff_mul_le hY, Nat.mul_comm]; exact hm, h.b, h.c⟩
theorem Find.down {Y R lo hi mid : Nat} (h : Find Y R lo hi) (hY : 0 < Y) (hm : ¬ Y * mid ≤ R) (h0 : 0 < mid) (hc : mid ≤ hi) : Find Y R lo (mid - 1) := by
 have : R / Y < mid := by rw [Nat.div_lt_iff_lt_mul hY, Nat.mul_comm]; omega
 exact ⟨h.a, by omega, by have := h.c; omega⟩
set_option maxHeartbeats 4000000 in
theorem bigQuo0 {u : PH} {x x' : Value} {y z : Int} (hx : BigP u x y) (hx' : BigP u x' z) (sy : nl y.natAbs ≤ 100000000000) (sz : nl z.natAbs ≤ 100000000000) (hz0 : z ≠ 0) :
  Fn0 Tryz.prog 204 [x, x'] u fun v u' => ∃ a b, v = .tuple #[a, b] ∧ BigP u' a (y.tdiv z) ∧ BigP u' b (y.tmod z) := by
 obtain ⟨b, a, n, c, rfl, hb, hi⟩ := hx.opn
 obtain ⟨b', a', n', c', rfl, hb', hi'⟩ := hx'.opn
 obtain ⟨rfl, _⟩ := hi.len
 obtain ⟨rfl, _⟩ := hi'.len
 have hll := low_limbs y.natAbs
 have sy' : (limbs y.natAbs).length ≤ 100000000000 := sy
 have sz' : (limbs z.natAbs).length ≤ 100000000000 := sz
 have hYp : 0 < z.natAbs := by omega
 have hn1 : 0 < (limbs z.natAbs).length := len_pos.2 hYp
 have hquo : sgnd (!(b == b')) (y.natAbs / z.natAbs) = y.tdiv z := by rw [hb, hb']; exact tdiv_sgnd y z
 have hrem : sgnd b (y.natAbs % z.natAbs) = y.tmod z := by rw [hb]; exact tmod_sgnd y z
 have hvy := val_limbs y.natAbs
 rw [← hvy] at hquo hrem
 generalize limbs y.natAbs = lx at *
 have hY := val_limbs z.natAbs
 have hly := low_limbs z.natAbs
 have htop := top_ne (n := z.natAbs) (by omega)
 generalize z.natAbs = Y at *
 clear hb hb' hx hx' sy sz
 refine Fn0.of Tryz.func204 (by kernel_rfl) (by kernel_rfl) ?_
 refine G.make 3 1 8 (.int .i64 0) lx.length (by kernel_rfl) rfl rfl (by omega) (by omega) (by omega) ?_
 rintro vq m1 hA ⟨aq, rfl⟩
 rw [intsV_zeros] at hA
 refine G.sub (lx.length : Int) 1 ((lx.length : Int) - 1) (by kernel_rfl) rfl (by omega) (by omega) ?_
 refine G.loop (ι := Int × Nat × List Nat × Value) (fun i => [(2, .p 0 0), (3, .p 1 0), (4, .p 2 0), (5, .p 3 0), (6, .v i.2.2.2), (7, .v (.slice (some aq) lx.length lx.length)), (8, .v (.int .i64 i.1))])
  (fun _ => [(0, ⟨122, [.v (.bool b), .v (.slice a lx.length c)]⟩), (1, ⟨122, [.v (.bool b'), .v (.slice a' (limbs Y).length c')]⟩), (2, ⟨122, [.v (.bool false), .v (.slice none 0 0)]⟩), (3, ⟨122, [.v (.bool false), .v (.slice none 0 0)]⟩)])
  (fun i u' m' => (-1 ≤ i.1 ∧ i.1 < lx.length) ∧ QuoSt lx Y (i.1 + 1).toNat i.2.2.1 i.2.1 ∧ IntsP u' i.2.2.2 (limbs i.2.1) ∧ ArrAt PH.mt m' (.slice (some aq) lx.length lx.length) 3 1 (intsV i.2.2.1)) (fun i => (i.1 + 1).toNat) ((lx.length : Int) - 1, 0, List.replicate lx.length 0, .slice none 0 0) (by kernel_rfl) (fun _ => by kernel_rfl) ⟨by kernel_rfl, by kernel_rfl, by kernel_rfl⟩
  ⟨⟨by simp; omega, by simp; omega⟩, by rw [show (((lx.length : Int) - 1) + 1).toNat = lx.length by omega]; exact QuoSt.start _ _, by rw [limbs_zero]; exact ListP.nil _ _ _ _, hA⟩ ?_
 clear hA m1
 rintro J ⟨zi, R, qs, vr⟩ hJ u' m' hle ⟨hzi, hst, hR, hA⟩
 simp only at hzi hst hR hA hJ
 obtain ⟨ar, cr, rfl, hcr⟩ := hR.opn
 by_cases hneg : 0 ≤ zi
 ·obtain ⟨k, rfl⟩ := Int.eq_ofNat_of_zero_le hneg
  rw [show ((k : Int) + 1).toNat = k + 1 by omega] at hst
  have hk : k < lx.length := by omega
  have hRY : R < Y := by rw [hst.rest]; exact Nat.mod_lt _ hYp
  have hxk := hll.getD k
  have hstep := hst.step hll hk hYp
  have hdig := quo_digit hRY hxk
  obtain ⟨baq, caq, e⟩ := hA.ptr (by intro e; have := congrArg List.length e; rw [intsV_length, hst.len, List.length_nil] at this; omega)
  simp only [Value.slice.injEq, Option.some.injEq] at e
  obtain ⟨rfl, _, _⟩ := e
  obtain ⟨ba, oa, rfl, ea⟩ := (hi.mono hle).at (j := k) hk
  refine G.geqT (k : Int) 0 (by kernel_rfl) (by omega) ?_
  refine G.addr ba oa lx.length c k 1 (by kernel_rfl) hk ?_
  refine G.loadU none ba (oa + k * 1) (.int .i64 (lx.getD k 0 : Nat)) (by kernel_rfl) (by kernel_rfl) ea ?_
  refine G.buildU 3 1 8 (.int .i64 0) [.int .i64 (lx.getD k 0 : Nat)] (by kernel_rfl) (intsV_ok [lx.getD k 0]) rfl (by omega) (by simp) (by simp) ?_
  intro g u1 l1 e1
  have hRlen : (limbs R).length ≤ (limbs Y).length := val_le_len (by omega)
  refine G.appendV 3 1 8 (.int .i64 0) (intsV [lx.getD k 0]) (intsV (limbs R)) (some ⟨g, 0, none⟩) 1 ar (limbs R).length cr (by kernel_rfl) (by omega) (one_int g u1 _ e1) (intsV_ok _) (hR.mono l1) (intsV_ok _) (by rw [intsV_length, intsV_length]; simp; omega) (by rw [intsV_length, intsV_length]; simp; omega) ?_
  intro v2 u2 l2 h2
  rw [intsV_cons] at h2
  obtain ⟨a2, c2, rfl, hc2⟩ := IntsP.opn h2
  refine G.call0 _ _ (by kernel_rfl) Tryz.call172 (bigTrimB (b := false) (l := lx.getD k 0 :: limbs R) h2 (Low.cons hxk (low_limbs R)) (by simp; omega)) ?_
  intro v3 u3 l3 h3
  rw [show val (lx.getD k 0 :: limbs R) = lx.getD k 0 + 1000000000 * R by simp only [val]; rw [val_limbs]] at h3
  generalize lx.getD k 0 + 1000000000 * R = R' at *
  obtain ⟨b3, a3, n3, c3, rfl, _, _⟩ := h3.opn
  have hR' := h3.lim
  obtain ⟨rfl, hc3⟩ := hR'.len
  have hR'len : (limbs R').length ≤ (limbs Y).length + 1 := by
   have h5 := hdig
   rw [Nat.div_lt_iff_lt_mul hYp] at h5
   refine nl_le_of_lt ?_
   have h6 := lt_pow_nl Y
   rw [Nat.pow_succ]
   have h7 : 1000000000 * Y < 1000000000 * 1000000000 ^ nl Y := Nat.mul_lt_mul_of_pos_left h6 (by omega)
   have h8 : (1000000000 : Nat) ^ (limbs Y).length = 1000000000 ^ nl Y := rfl
   rw [h8, Nat.mul_comm (1000000000 ^ nl Y)]; omega
  have hiy := hi'.mono (((hle.trans l1).trans l2).trans l3)
  refine G.call0 _ _ (by kernel_rfl) Tryz.call202 (bigSize0 hR' hiy (by show (limbs R').length ≤ _; omega) (by show (limbs Y).length ≤ _; omega)) ?_
  rintro v4 u4 l4 rfl
  have hR4 := hR'.mono l4
  have hiy4 := hiy.mono l4
  have hle4 : PH.le u u4 := (((hle.trans l1).trans l2).trans l3).trans l4
  by_cases hge : Y ≤ R'
  ·refine G.geqT (sgn ((R' : Int) - Y)) 0 (by kernel_rfl) (sgn_ge (by omega)) ?_
   have hlen2 : (limbs Y).length ≤ (limbs R').length := val_le_len hge
   obtain ⟨rl, hr1, hr2⟩ := top_of R' (limbs Y).length hn1 hR'len hlen2
   obtain ⟨br, orr, rfl, er⟩ := hR4.at (j := (limbs Y).length - 1) (by omega)
   have hr1l := (low_limbs R').getD ((limbs Y).length - 1)
   have hr2l := (low_limbs R').getD (limbs Y).length
   have hy1l := hly.getD ((limbs Y).length - 1)
   obtain ⟨by_, oy, rfl, ey⟩ := hiy4.at (j := (limbs Y).length - 1) (by omega)
   have hYsplit : Y = (limbs Y).getD ((limbs Y).length - 1) 0 * 1000000000 ^ ((limbs Y).length - 1) + val ((limbs Y).take ((limbs Y).length - 1)) := by
    have h5 := val_split (limbs Y) ((limbs Y).length - 1) (by omega)
    rw [hY, drop_getD _ _ (show (limbs Y).length - 1 < (limbs Y).length by omega), List.drop_of_length_le (by omega)] at h5
    simp only [val, Nat.mul_zero, Nat.add_zero] at h5
    rw [Nat.mul_comm]; omega
   have hyl : val ((limbs Y).take ((limbs Y).length - 1)) < 1000000000 ^ ((limbs Y).length - 1) := by
    have := val_lt (hly.take ((limbs Y).length - 1))
    rwa [List.length_take, Nat.min_eq_left (by omega)] at this
   have hest := quo_est hYsplit hyl htop hr1 hr2
   refine G.sub ((limbs Y).length : Int) 1 (((limbs Y).length - 1 : Nat) : Int) (by kernel_rfl) (by omega) (by omega) (by omega) ?_
   refine G.addr br orr (limbs R').length c3 ((limbs Y).length - 1) 1 (by kernel_rfl) (by omega) ?_
   refine G.loadU none br (orr + ((limbs Y).length - 1) * 1) (.int .i64 ((limbs R').getD ((limbs Y).length - 1) 0 : Nat)) (by kernel_rfl) (by kernel_rfl) er ?_
   obtain ⟨top, htp⟩ : ∃ top, top = (limbs R').getD ((limbs Y).length - 1) 0 + (limbs R').getD (limbs Y).length 0 * 1000000000 := ⟨_, rfl⟩
   rw [← htp] at hest
   have hmm : ∀ k : Nat, ((min (999999999 : Int) (k : Int))) = ((min 999999999 k : Nat) : Int) := fun k => by omega
   obtain ⟨h1, hh1⟩ : ∃ h1, h1 = min 999999999 (top / (limbs Y).getD ((limbs Y).length - 1) 0) := ⟨_, rfl⟩
   obtain ⟨l0, hl0⟩ : ∃ l0, l0 = min h1 (top / ((limbs Y).getD ((limbs Y).length - 1) 0 + 1)) := ⟨_, rfl⟩
   have hfind : Find Y R' l0 h1 := ⟨by omega, by omega, by omega⟩
   by_cases hlong : (limbs Y).length < (limbs R').length
   ·refine G.gtrT ((limbs R').length : Int) ((limbs Y).length : Int) (by kernel_rfl) (by omega) ?_
    obtain ⟨_, _, e9, er2⟩ := hR4.at (j := (limbs Y).length) hlong
    simp only [Option.some.injEq, Addr.mk.injEq, and_true] at e9
    obtain ⟨rfl, rfl⟩ := e9
    refine G.addr br orr (limbs R').length c3 (limbs Y).length 1 (by kernel_rfl) hlong ?_
    refine G.loadU none br (orr + (limbs Y).length * 1) (.int .i64 ((limbs R').getD (limbs Y).length 0 : Nat)) (by kernel_rfl) (by kernel_rfl) er2 ?_
    refine G.mul ((limbs R').getD (limbs Y).length 0 : Nat) 1000000000 (((limbs R').getD (limbs Y).length 0 * 1000000000 : Nat) : Int) (by kernel_rfl) (by omega) (by omega) (by omega) ?_
    refine G.add ((limbs R').getD ((limbs Y).length - 1) 0 : Nat) (((limbs R').getD (limbs Y).length 0 * 1000000000 : Nat) : Int) (top : Int) (by kernel_rfl) (by omega) (by omega) (by omega) ?_
    obtain ⟨y1, hy1e⟩ : ∃ y1, y1 = (limbs Y).getD ((limbs Y).length - 1) 0 := ⟨_, rfl⟩
    rw [← hy1e] at ey hh1 hl0 htop hy1l
    refine G.sub ((limbs Y).length : Int) 1 (((limbs Y).length - 1 : Nat) : Int) (by kernel_rfl) (by omega) (by omega) (by omega) ?_
    refine G.addr by_ oy (limbs Y).length c' ((limbs Y).length - 1) 1 (by kernel_rfl) (by omega) ?_
    refine G.loadU none by_ (oy + ((limbs Y).length - 1) * 1) (.int .i64 (y1 : Nat)) (by kernel_rfl) (by kernel_rfl) ey ?_
    refine G.quo (top : Int) (y1 : Int) ((top / y1 : Nat) : Int) (by kernel_rfl) (by omega) (by omega) (by omega) (Int.natCast_ediv _ _).symm ?_
    refine G.minI [3, 3] 999999999 ((top / y1 : Nat) : Int) (h1 : Int) (by kernel_rfl) (by rw [hmm, hh1]) ?_
    refine G.sub ((limbs Y).length : Int) 1 (((limbs Y).length - 1 : Nat) : Int) (by kernel_rfl) (by omega) (by omega) (by omega) ?_
    refine G.addr by_ oy (limbs Y).length c' ((limbs Y).length - 1) 1 (by kernel_rfl) (by omega) ?_
    refine G.loadU none by_ (oy + ((limbs Y).length - 1) * 1) (.int .i64 (y1 : Nat)) (by kernel_rfl) (by kernel_rfl) ey ?_
    refine G.add (y1 : Int) 1 ((y1 + 1 : Nat) : Int) (by kernel_rfl) (by omega) (by omega) (by omega) ?_
    refine G.quo (top : Int) ((y1 + 1 : Nat) : Int) ((top / (y1 + 1) : Nat) : Int) (by kernel_rfl) (by omega) (by omega) (by omega) (Int.natCast_ediv _ _).symm ?_
    refine G.minI [3, 3] (h1 : Int) ((top / (y1 + 1) : Nat) : Int) (l0 : Int) (by kernel_rfl) (by rw [hl0]; omega) ?_
    refine G.loop (ι := Nat × Nat) (fun i => [(2, .p 0 0), (3, .p 1 0), (4, .p 2 0), (5, .p 3 0), (6, .v (.slice (some ⟨br, orr, none⟩) (limbs R').length c3)), (7, .v (.slice (some ⟨baq, 0, none⟩) lx.length lx.length)), (8, .v (.int .i64 (k : Int))), (9, .v (.int .i64 (i.1 : Int))), (10, .v (.int .i64 (i.2 : Int)))])
     (fun _ => [(0, ⟨122, [.v (.bool b), .v (.slice (some ⟨ba, oa, none⟩) lx.length c)]⟩), (1, ⟨122, [.v (.bool b'), .v (.slice (some ⟨by_, oy, none⟩) (limbs Y).length c')]⟩), (2, ⟨122, [.v (.bool false), .v (.slice none 0 0)]⟩), (3, ⟨122, [.v (.bool false), .v (.slice none 0 0)]⟩)])
     (fun i _ m' => Find Y R' i.1 i.2 ∧ ArrAt PH.mt m' (.slice (some ⟨baq, 0, none⟩) lx.length lx.length) 3 1 (intsV qs)) (fun i => i.2 - i.1) (l0, h1) (by kernel_rfl) (fun _ => by kernel_rfl) ⟨by kernel_rfl, by kernel_rfl, by kernel_rfl⟩ ⟨hfind, hA⟩ ?_
    clear hfind hA hl0 hh1
    rintro J2 ⟨lo, hi2⟩ hJ2 u5 m' hle5 ⟨hf, hA⟩
    simp only at hf hA hJ2
    have hf1 := hf.a
    have hf2 := hf.b
    have hf3 := hf.c
    by_cases hlt : lo < hi2
    ·refine G.lssT (lo : Int) (hi2 : Int) (by kernel_rfl) (by omega) ?_
     refine G.add (lo : Int) (hi2 : Int) ((lo + hi2 : Nat) : Int) (by kernel_rfl) (by omega) (by omega) (by omega) ?_
     refine G.add ((lo + hi2 : Nat) : Int) 1 ((lo + hi2 + 1 : Nat) : Int) (by kernel_rfl) (by omega) (by omega) (by omega) ?_
     obtain ⟨mid, hmid⟩ : ∃ mid, mid = (lo + hi2 + 1) / 2 := ⟨_, rfl⟩
     refine G.quo ((lo + hi2 + 1 : Nat) : Int) 2 (mid : Int) (by kernel_rfl) (by omega) (by omega) (by omega) (by omega) ?_
     refine G.call0 _ _ (by kernel_rfl) Tryz.call231 (bigTimes0 (n := mid) (hiy4.mono hle5) hly (by omega) (by omega)) ?_
     intro v6 u6 l6 h6
     rw [hY] at h6
     obtain ⟨a6, c6, rfl, hc6⟩ := h6.opn
     have hs6 : (limbs (Y * mid)).length ≤ 200000000002 := by
      have h5 := nl_mul Y mid
      have h7 : nl mid ≤ 1 := nl_le_of_lt (by omega)
      have h8 : nl Y = (limbs Y).length := rfl
      have h9 : nl (Y * mid) = (limbs (Y * mid)).length := rfl
      omega
     refine G.call0 _ _ (by kernel_rfl) Tryz.call202 (bigSize0 h6 ((hR4.mono hle5).mono l6) (by show (limbs (Y * mid)).length ≤ _; omega) (by show (limbs R').length ≤ _; omega)) ?_
     rintro v7 u7 l7 rfl
     by_cases hle7 : Y * mid ≤ R'
     ·refine G.leqT (sgn (((Y * mid : Nat) : Int) - R')) 0 (by kernel_rfl) (sgn_le (by omega)) ?_
      exact G.back (by kernel_rfl) (hJ2 (mid, hi2) _ _ _ ⟨by kernel_rfl, by kernel_rfl, by kernel_rfl⟩ ((hle5.trans l6).trans l7) ⟨hf.up hYp hle7, hA⟩ (by dsimp only; omega))
     ·refine G.leqF (sgn (((Y * mid : Nat) : Int) - R')) 0 (by kernel_rfl) (by rw [sgn_pos (by omega)]; decide) ?_
      refine G.sub (mid : Int) 1 ((mid - 1 : Nat) : Int) (by kernel_rfl) (by omega) (by omega) (by omega) ?_
      exact G.back (by kernel_rfl) (hJ2 (lo, mid - 1) _ _ _ ⟨by kernel_rfl, by kernel_rfl, by kernel_rfl⟩ ((hle5.trans l6).trans l7) ⟨hf.down hYp hle7 (by omega) (by omega), hA⟩ (by dsimp only; omega))
    ·obtain rfl : lo = R' / Y := by omega
     refine G.lssF ((R' / Y : Nat) : Int) (hi2 : Int) (by kernel_rfl) (by omega) ?_
     refine G.addr baq 0 lx.length lx.length k 1 (by kernel_rfl) hk ?_
     refine G.storeA 1 PH.mt _ baq lx.length lx.length k (.int .i64 ((R' / Y : Nat) : Int)) (by kernel_rfl) hA (by rw [intsV_length, hst.len]; exact hk) rfl rfl ?_
     intro m2 hA2
     rw [intsV_set] at hA2
     by_cases hq0 : 0 < R' / Y
     ·refine G.gtrT ((R' / Y : Nat) : Int) 0 (by kernel_rfl) (by omega) ?_
      refine G.call0 _ _ (by kernel_rfl) Tryz.call231 (bigTimes0 (n := R' / Y) (hiy4.mono hle5) hly (by omega) (by omega)) ?_
      intro v6 u6 l6 h6
      rw [hY] at h6
      have hmul : Y * (R' / Y) ≤ R' := Nat.mul_div_le R' Y
      obtain ⟨a6, c6, rfl, hc6⟩ := h6.opn
      refine G.call0 _ _ (by kernel_rfl) Tryz.call207 (bigMinus0 ((hR4.mono hle5).mono l6) h6 (low_limbs _) (low_limbs _) (by omega) (val_le_len hmul) (by rw [val_limbs, val_limbs]; exact hmul)) ?_
      rintro v7 u7 l7 ⟨l, g1, g2, g3, g4⟩
      obtain ⟨a7, c7, rfl, hc7⟩ := g1.opn
      refine G.call0 _ _ (by kernel_rfl) Tryz.call172 (bigTrimB (b := false) g1 g2 (by omega)) ?_
      intro v8 u8 l8 h8
      rw [g3, val_limbs, val_limbs, show R' - Y * (R' / Y) = R' % Y by have := Nat.div_add_mod R' Y; omega] at h8
      obtain ⟨b8, a8, n8, c8, rfl, _, _⟩ := h8.opn
      refine G.sub (k : Int) 1 ((k : Int) - 1) (by kernel_rfl) rfl (by omega) (by omega) ?_
      refine G.back (by kernel_rfl) (hJ ((k : Int) - 1, R' % Y, qs.set k (R' / Y), .slice a8 n8 c8) _ _ _ ⟨by kernel_rfl, by kernel_rfl, by kernel_rfl⟩ ((((hle4.trans hle5).trans l6).trans l7).trans l8) ⟨⟨by dsimp only; omega, by dsimp only; omega⟩, ?_, h8.lim, hA2⟩ (by dsimp only; omega))
      rw [show (((k : Int) - 1) + 1).toNat = k by omega]; exact hstep
     ·refine G.gtrF ((R' / Y : Nat) : Int) 0 (by kernel_rfl) (by omega) ?_
      refine G.sub (k : Int) 1 ((k : Int) - 1) (by kernel_rfl) rfl (by omega) (by omega) ?_
      have hm0 : R' % Y = R' := by have := Nat.div_add_mod R' Y; rw [show R' / Y = 0 by omega, Nat.mul_zero] at this; omega
      rw [hm0] at hstep
      refine G.back (by kernel_rfl) (hJ ((k : Int) - 1, R', qs.set k (R' / Y), .slice (some ⟨br, orr, none⟩) (limbs R').length c3) _ _ _ ⟨by kernel_rfl, by kernel_rfl, by kernel_rfl⟩ (hle4.trans hle5) ⟨⟨by dsimp only; omega, by dsimp only; omega⟩, ?_, hR4.mono hle5, hA2⟩ (by dsimp only; omega))
      rw [show (((k : Int) - 1) + 1).toNat = k by omega]; exact hstep
   ·refine G.gtrF ((limbs R').length : Int) ((limbs Y).length : Int) (by kernel_rfl) (by omega) ?_
    have h0 := getD_past (l := limbs R') (k := (limbs Y).length) (by omega)
    rw [h0, Nat.zero_mul, Nat.add_zero] at htp
    rw [← htp]
    obtain ⟨y1, hy1e⟩ : ∃ y1, y1 = (limbs Y).getD ((limbs Y).length - 1) 0 := ⟨_, rfl⟩
    rw [← hy1e] at ey hh1 hl0 htop hy1l
    refine G.sub ((limbs Y).length : Int) 1 (((limbs Y).length - 1 : Nat) : Int) (by kernel_rfl) (by omega) (by omega) (by omega) ?_
    refine G.addr by_ oy (limbs Y).length c' ((limbs Y).length - 1) 1 (by kernel_rfl) (by omega) ?_
    refine G.loadU none by_ (oy + ((limbs Y).length - 1) * 1) (.int .i64 (y1 : Nat)) (by kernel_rfl) (by kernel_rfl) ey ?_
    refine G.quo (top : Int) (y1 : Int) ((top / y1 : Nat) : Int) (by kernel_rfl) (by omega) (by omega) (by omega) (Int.natCast_ediv _ _).symm ?_
    refine G.minI [3, 3] 999999999 ((top / y1 : Nat) : Int) (h1 : Int) (by kernel_rfl) (by rw [hmm, hh1]) ?_
    refine G.sub ((limbs Y).length : Int) 1 (((limbs Y).length - 1 : Nat) : Int) (by kernel_rfl) (by omega) (by omega) (by omega) ?_
    refine G.addr by_ oy (limbs Y).length c' ((limbs Y).length - 1) 1 (by kernel_rfl) (by omega) ?_
    refine G.loadU none by_ (oy + ((limbs Y).length - 1) * 1) (.int .i64 (y1 : Nat)) (by kernel_rfl) (by kernel_rfl) ey ?_
    refine G.add (y1 : Int) 1 ((y1 + 1 : Nat) : Int) (by kernel_rfl) (by omega) (by omega) (by omega) ?_
    refine G.quo (top : Int) ((y1 + 1 : Nat) : Int) ((top / (y1 + 1) : Nat) : Int) (by kernel_rfl) (by omega) (by omega) (by omega) (Int.natCast_ediv _ _).symm ?_
    refine G.minI [3, 3] (h1 : Int) ((top / (y1 + 1) : Nat) : Int) (l0 : Int) (by kernel_rfl) (by rw [hl0]; omega) ?_
    refine G.loop (ι := Nat × Nat) (fun i => [(2, .p 0 0), (3, .p 1 0), (4, .p 2 0), (5, .p 3 0), (6, .v (.slice (some ⟨br, orr, none⟩) (limbs R').length c3)), (7, .v (.slice (some ⟨baq, 0, none⟩) lx.length lx.length)), (8, .v (.int .i64 (k : Int))), (9, .v (.int .i64 (i.1 : Int))), (10, .v (.int .i64 (i.2 : Int)))])
     (fun _ => [(0, ⟨122, [.v (.bool b), .v (.slice (some ⟨ba, oa, none⟩) lx.length c)]⟩), (1, ⟨122, [.v (.bool b'), .v (.slice (some ⟨by_, oy, none⟩) (limbs Y).length c')]⟩), (2, ⟨122, [.v (.bool false), .v (.slice none 0 0)]⟩), (3, ⟨122, [.v (.bool false), .v (.slice none 0 0)]⟩)])
     (fun i _ m' => Find Y R' i.1 i.2 ∧ ArrAt PH.mt m' (.slice (some ⟨baq, 0, none⟩) lx.length lx.length) 3 1 (intsV qs)) (fun i => i.2 - i.1) (l0, h1) (by kernel_rfl) (fun _ => by kernel_rfl) ⟨by kernel_rfl, by kernel_rfl, by kernel_rfl⟩ ⟨hfind, hA⟩ ?_
    clear hfind hA hl0 hh1
    rintro J2 ⟨lo, hi2⟩ hJ2 u5 m' hle5 ⟨hf, hA⟩
    simp only at hf hA hJ2
    have hf1 := hf.a
    have hf2 := hf.b
    have hf3 := hf.c
    by_cases hlt : lo < hi2
    ·refine G.lssT (lo : Int) (hi2 : Int) (by kernel_rfl) (by omega) ?_
     refine G.add (lo : Int) (hi2 : Int) ((lo + hi2 : Nat) : Int) (by kernel_rfl) (by omega) (by omega) (by omega) ?_
     refine G.add ((lo + hi2 : Nat) : Int) 1 ((lo + hi2 + 1 : Nat) : Int) (by kernel_rfl) (by omega) (by omega) (by omega) ?_
     obtain ⟨mid, hmid⟩ : ∃ mid, mid = (lo + hi2 + 1) / 2 := ⟨_, rfl⟩
     refine G.quo ((lo + hi2 + 1 : Nat) : Int) 2 (mid : Int) (by kernel_rfl) (by omega) (by omega) (by omega) (by omega) ?_
     refine G.call0 _ _ (by kernel_rfl) Tryz.call231 (bigTimes0 (n := mid) (hiy4.mono hle5) hly (by omega) (by omega)) ?_
     intro v6 u6 l6 h6
     rw [hY] at h6
     obtain ⟨a6, c6, rfl, hc6⟩ := h6.opn
     have hs6 : (limbs (Y * mid)).length ≤ 200000000002 := by
      have h5 := nl_mul Y mid
      have h7 : nl mid ≤ 1 := nl_le_of_lt (by omega)
      have h8 : nl Y = (limbs Y).length := rfl
      have h9 : nl (Y * mid) = (limbs (Y * mid)).length := rfl
      omega
     refine G.call0 _ _ (by kernel_rfl) Tryz.call202 (bigSize0 h6 ((hR4.mono hle5).mono l6) (by show (limbs (Y * mid)).length ≤ _; omega) (by show (limbs R').length ≤ _; omega)) ?_
     rintro v7 u7 l7 rfl
     by_cases hle7 : Y * mid ≤ R'
     ·refine G.leqT (sgn (((Y * mid : Nat) : Int) - R')) 0 (by kernel_rfl) (sgn_le (by omega)) ?_
      exact G.back (by kernel_rfl) (hJ2 (mid, hi2) _ _ _ ⟨by kernel_rfl, by kernel_rfl, by kernel_rfl⟩ ((hle5.trans l6).trans l7) ⟨hf.up hYp hle7, hA⟩ (by dsimp only; omega))
     ·refine G.leqF (sgn (((Y * mid : Nat) : Int) - R')) 0 (by kernel_rfl) (by rw [sgn_pos (by omega)]; decide) ?_
      refine G.sub (mid : Int) 1 ((mid - 1 : Nat) : Int) (by kernel_rfl) (by omega) (by omega) (by omega) ?_
      exact G.back (by kernel_rfl) (hJ2 (lo, mid - 1) _ _ _ ⟨by kernel_rfl, by kernel_rfl, by kernel_rfl⟩ ((hle5.trans l6).trans l7) ⟨hf.down hYp hle7 (by omega) (by omega), hA⟩ (by dsimp only; omega))
    ·obtain rfl : lo = R' / Y := by omega
     refine G.lssF ((R' / Y : Nat) : Int) (hi2 : Int) (by kernel_rfl) (by omega) ?_
     refine G.addr baq 0 lx.length lx.length k 1 (by kernel_rfl) hk ?_
     refine G.storeA 1 PH.mt _ baq lx.length lx.length k (.int .i64 ((R' / Y : Nat) : Int)) (by kernel_rfl) hA (by rw [intsV_length, hst.len]; exact hk) rfl rfl ?_
     intro m2 hA2
     rw [intsV_set] at hA2
     by_cases hq0 : 0 < R' / Y
     ·refine G.gtrT ((R' / Y : Nat) : Int) 0 (by kernel_rfl) (by omega) ?_
      refine G.call0 _ _ (by kernel_rfl) Tryz.call231 (bigTimes0 (n := R' / Y) (hiy4.mono hle5) hly (by omega) (by omega)) ?_
      intro v6 u6 l6 h6
      rw [hY] at h6
      have hmul : Y * (R' / Y) ≤ R' := Nat.mul_div_le R' Y
      obtain ⟨a6, c6, rfl, hc6⟩ := h6.opn
      refine G.call0 _ _ (by kernel_rfl) Tryz.call207 (bigMinus0 ((hR4.mono hle5).mono l6) h6 (low_limbs _) (low_limbs _) (by omega) (val_le_len hmul) (by rw [val_limbs, val_limbs]; exact hmul)) ?_
      rintro v7 u7 l7 ⟨l, g1, g2, g3, g4⟩
      obtain ⟨a7, c7, rfl, hc7⟩ := g1.opn
      refine G.call0 _ _ (by kernel_rfl) Tryz.call172 (bigTrimB (b := false) g1 g2 (by omega)) ?_
      intro v8 u8 l8 h8
      rw [g3, val_limbs, val_limbs, show R' - Y * (R' / Y) = R' % Y by have := Nat.div_add_mod R' Y; omega] at h8
      obtain ⟨b8, a8, n8, c8, rfl, _, _⟩ := h8.opn
      refine G.sub (k : Int) 1 ((k : Int) - 1) (by kernel_rfl) rfl (by omega) (by omega) ?_
      refine G.back (by kernel_rfl) (hJ ((k : Int) - 1, R' % Y, qs.set k (R' / Y), .slice a8 n8 c8) _ _ _ ⟨by kernel_rfl, by kernel_rfl, by kernel_rfl⟩ ((((hle4.trans hle5).trans l6).trans l7).trans l8) ⟨⟨by dsimp only; omega, by dsimp only; omega⟩, ?_, h8.lim, hA2⟩ (by dsimp only; omega))
      rw [show (((k : Int) - 1) + 1).toNat = k by omega]; exact hstep
     ·refine G.gtrF ((R' / Y : Nat) : Int) 0 (by kernel_rfl) (by omega) ?_
      refine G.sub (k : Int) 1 ((k : Int) - 1) (by kernel_rfl) rfl (by omega) (by omega) ?_
      have hm0 : R' % Y = R' := by have := Nat.div_add_mod R' Y; rw [show R' / Y = 0 by omega, Nat.mul_zero] at this; omega
      rw [hm0] at hstep
      refine G.back (by kernel_rfl) (hJ ((k : Int) - 1, R', qs.set k (R' / Y), .slice (some ⟨br, orr, none⟩) (limbs R').length c3) _ _ _ ⟨by kernel_rfl, by kernel_rfl, by kernel_rfl⟩ (hle4.trans hle5) ⟨⟨by dsimp only; omega, by dsimp only; omega⟩, ?_, hR4.mono hle5, hA2⟩ (by dsimp only; omega))
      rw [show (((k : Int) - 1) + 1).toNat = k by omega]; exact hstep
  ·refine G.geqF (sgn ((R' : Int) - Y)) 0 (by kernel_rfl) (by rw [sgn_neg (by omega)]; decide) ?_
   obtain ⟨l0, hl0⟩ : ∃ l0 : Nat, l0 = 0 := ⟨_, rfl⟩
   obtain ⟨h1, hh1⟩ : ∃ h1 : Nat, h1 = 0 := ⟨_, rfl⟩
   have hfind : Find Y R' 0 0 := by
    have : R' / Y = 0 := Nat.div_eq_of_lt (by omega)
    exact ⟨by omega, by omega, by omega⟩
   refine G.loop (ι := Nat × Nat) (fun i => [(2, .p 0 0), (3, .p 1 0), (4, .p 2 0), (5, .p 3 0), (6, .v (.slice a3 (limbs R').length c3)), (7, .v (.slice (some ⟨baq, 0, none⟩) lx.length lx.length)), (8, .v (.int .i64 (k : Int))), (9, .v (.int .i64 (i.1 : Int))), (10, .v (.int .i64 (i.2 : Int)))])
    (fun _ => [(0, ⟨122, [.v (.bool b), .v (.slice (some ⟨ba, oa, none⟩) lx.length c)]⟩), (1, ⟨122, [.v (.bool b'), .v (.slice a' (limbs Y).length c')]⟩), (2, ⟨122, [.v (.bool false), .v (.slice none 0 0)]⟩), (3, ⟨122, [.v (.bool false), .v (.slice none 0 0)]⟩)])
    (fun i _ m' => Find Y R' i.1 i.2 ∧ ArrAt PH.mt m' (.slice (some ⟨baq, 0, none⟩) lx.length lx.length) 3 1 (intsV qs)) (fun i => i.2 - i.1) (0, 0) (by kernel_rfl) (fun _ => by kernel_rfl) ⟨by kernel_rfl, by kernel_rfl, by kernel_rfl⟩ ⟨hfind, hA⟩ ?_
   clear hfind hA hl0 hh1
   rintro J2 ⟨lo, hi2⟩ hJ2 u5 m' hle5 ⟨hf, hA⟩
   simp only at hf hA hJ2
   have hf1 := hf.a
   have hf2 := hf.b
   have hf3 := hf.c
   by_cases hlt : lo < hi2
   ·refine G.lssT (lo : Int) (hi2 : Int) (by kernel_rfl) (by omega) ?_
    refine G.add (lo : Int) (hi2 : Int) ((lo + hi2 : Nat) : Int) (by kernel_rfl) (by omega) (by omega) (by omega) ?_
    refine G.add ((lo + hi2 : Nat) : Int) 1 ((lo + hi2 + 1 : Nat) : Int) (by kernel_rfl) (by omega) (by omega) (by omega) ?_
    obtain ⟨mid, hmid⟩ : ∃ mid, mid = (lo + hi2 + 1) / 2 := ⟨_, rfl⟩
    refine G.quo ((lo + hi2 + 1 : Nat) : Int) 2 (mid : Int) (by kernel_rfl) (by omega) (by omega) (by omega) (by omega) ?_
    refine G.call0 _ _ (by kernel_rfl) Tryz.call231 (bigTimes0 (n := mid) (hiy4.mono hle5) hly (by omega) (by omega)) ?_
    intro v6 u6 l6 h6
    rw [hY] at h6
    obtain ⟨a6, c6, rfl, hc6⟩ := h6.opn
    have hs6 : (limbs (Y * mid)).length ≤ 200000000002 := by
     have h5 := nl_mul Y mid
     have h7 : nl mid ≤ 1 := nl_le_of_lt (by omega)
     have h8 : nl Y = (limbs Y).length := rfl
     have h9 : nl (Y * mid) = (limbs (Y * mid)).length := rfl
     omega
    refine G.call0 _ _ (by kernel_rfl) Tryz.call202 (bigSize0 h6 ((hR4.mono hle5).mono l6) (by show (limbs (Y * mid)).length ≤ _; omega) (by show (limbs R').length ≤ _; omega)) ?_
    rintro v7 u7 l7 rfl
    by_cases hle7 : Y * mid ≤ R'
    ·refine G.leqT (sgn (((Y * mid : Nat) : Int) - R')) 0 (by kernel_rfl) (sgn_le (by omega)) ?_
     exact G.back (by kernel_rfl) (hJ2 (mid, hi2) _ _ _ ⟨by kernel_rfl, by kernel_rfl, by kernel_rfl⟩ ((hle5.trans l6).trans l7) ⟨hf.up hYp hle7, hA⟩ (by dsimp only; omega))
    ·refine G.leqF (sgn (((Y * mid : Nat) : Int) - R')) 0 (by kernel_rfl) (by rw [sgn_pos (by omega)]; decide) ?_
     refine G.sub (mid : Int) 1 ((mid - 1 : Nat) : Int) (by kernel_rfl) (by omega) (by omega) (by omega) ?_
     exact G.back (by kernel_rfl) (hJ2 (lo, mid - 1) _ _ _ ⟨by kernel_rfl, by kernel_rfl, by kernel_rfl⟩ ((hle5.trans l6).trans l7) ⟨hf.down hYp hle7 (by omega) (by omega), hA⟩ (by dsimp only; omega))
   ·obtain rfl : lo = R' / Y := by omega
    refine G.lssF ((R' / Y : Nat) : Int) (hi2 : Int) (by kernel_rfl) (by omega) ?_
    refine G.addr baq 0 lx.length lx.length k 1 (by kernel_rfl) hk ?_
    refine G.storeA 1 PH.mt _ baq lx.length lx.length k (.int .i64 ((R' / Y : Nat) : Int)) (by kernel_rfl) hA (by rw [intsV_length, hst.len]; exact hk) rfl rfl ?_
    intro m2 hA2
    rw [intsV_set] at hA2
    by_cases hq0 : 0 < R' / Y
    ·refine G.gtrT ((R' / Y : Nat) : Int) 0 (by kernel_rfl) (by omega) ?_
     refine G.call0 _ _ (by kernel_rfl) Tryz.call231 (bigTimes0 (n := R' / Y) (hiy4.mono hle5) hly (by omega) (by omega)) ?_
     intro v6 u6 l6 h6
     rw [hY] at h6
     have hmul : Y * (R' / Y) ≤ R' := Nat.mul_div_le R' Y
     obtain ⟨a6, c6, rfl, hc6⟩ := h6.opn
     refine G.call0 _ _ (by kernel_rfl) Tryz.call207 (bigMinus0 ((hR4.mono hle5).mono l6) h6 (low_limbs _) (low_limbs _) (by omega) (val_le_len hmul) (by rw [val_limbs, val_limbs]; exact hmul)) ?_
     rintro v7 u7 l7 ⟨l, g1, g2, g3, g4⟩
     obtain ⟨a7, c7, rfl, hc7⟩ := g1.opn
     refine G.call0 _ _ (by kernel_rfl) Tryz.call172 (bigTrimB (b := false) g1 g2 (by omega)) ?_
     intro v8 u8 l8 h8
     rw [g3, val_limbs, val_limbs, show R' - Y * (R' / Y) = R' % Y by have := Nat.div_add_mod R' Y; omega] at h8
     obtain ⟨b8, a8, n8, c8, rfl, _, _⟩ := h8.opn
     refine G.sub (k : Int) 1 ((k : Int) - 1) (by kernel_rfl) rfl (by omega) (by omega) ?_
     refine G.back (by kernel_rfl) (hJ ((k : Int) - 1, R' % Y, qs.set k (R' / Y), .slice a8 n8 c8) _ _ _ ⟨by kernel_rfl, by kernel_rfl, by kernel_rfl⟩ ((((hle4.trans hle5).trans l6).trans l7).trans l8) ⟨⟨by dsimp only; omega, by dsimp only; omega⟩, ?_, h8.lim, hA2⟩ (by dsimp only; omega))
     rw [show (((k : Int) - 1) + 1).toNat = k by omega]; exact hstep
    ·refine G.gtrF ((R' / Y : Nat) : Int) 0 (by kernel_rfl) (by omega) ?_
     refine G.sub (k : Int) 1 ((k : Int) - 1) (by kernel_rfl) rfl (by omega) (by omega) ?_
     have hm0 : R' % Y = R' := by have := Nat.div_add_mod R' Y; rw [show R' / Y = 0 by omega, Nat.mul_zero] at this; omega
     rw [hm0] at hstep
     refine G.back (by kernel_rfl) (hJ ((k : Int) - 1, R', qs.set k (R' / Y), .slice a3 (limbs R').length c3) _ _ _ ⟨by kernel_rfl, by kernel_rfl, by kernel_rfl⟩ (hle4.trans hle5) ⟨⟨by dsimp only; omega, by dsimp only; omega⟩, ?_, hR4.mono hle5, hA2⟩ (by dsimp only; omega))
     rw [show (((k : Int) - 1) + 1).toNat = k by omega]; exact hstep
 ·obtain rfl : zi = -1 := by omega
  refine G.geqF (-1) 0 (by kernel_rfl) (by omega) ?_
  refine G.give PH.mt (intsV qs) _ (by kernel_rfl) hA (fun _ => .inl rfl) ?_
  intro u1 l1 hL
  have hst : QuoSt lx Y 0 qs R := hst
  have hq := hst.quo
  have hr := hst.rest
  rw [List.drop_zero, List.drop_zero] at hq
  rw [List.drop_zero] at hr
  have hRY : R < Y := by rw [hr]; exact Nat.mod_lt _ hYp
  have hRlen : (limbs R).length ≤ (limbs Y).length := val_le_len (by omega)
  refine G.neB b b' (by kernel_rfl) ?_
  refine G.call0 _ _ (by kernel_rfl) Tryz.call172 (bigTrimB (b := !(b == b')) hL hst.low (by rw [hst.len]; omega)) ?_
  intro v2 u2 l2 h2
  rw [hq, hquo] at h2
  obtain ⟨b2, a2, n2, c2, rfl, _, _⟩ := h2.opn
  refine G.call0 _ _ (by kernel_rfl) Tryz.call172 (bigTrimB (b := b) (hR.mono (l1.trans l2)) (low_limbs R) (by omega)) ?_
  intro v3 u3 l3 h3
  rw [val_limbs, hr, hrem] at h3
  obtain ⟨b3, a3, n3, c3, rfl, _, _⟩ := h3.opn
  exact G.ret (.tuple #[.agg #[.bool b2, .slice a2 n2 c2], .agg #[.bool b3, .slice a3 n3 c3]]) (by kernel_rfl) ⟨rfl, _, _, rfl, h2.mono l3, h3⟩
end Go.Proofs.YtpdboaedoimahaaGreatDoor
end
section
set_option linter.unusedSectionVars false
set_option linter.unusedVariables false
namespace Go.Proofs.YtpdboaedoimahaaGreatDoor
open Go.RowKit
section rules
variable {P : Program} [Mixed P] {fn : Func} {Post : Spec} {st : List KI × S} {u m : PH}
theorem tdiv_bd {x y z : Int} (hx : -9223372036854775807 ≤ x) (hx2 : x ≤ 9223372036854775807) (hy : 0 < y) (hz : x.tdiv y = z) : -9223372036854775808 ≤ z ∧ z ≤ 9223372036854775807 := by
 rw [← hz]
 rcases Int.lt_or_le x 0 with h | h
 ·obtain ⟨k, rfl⟩ : ∃ k : Int, x = -k := ⟨-x, by omega⟩
  rw [Int.neg_tdiv, Int.tdiv_eq_ediv_of_nonneg (by omega)]
  have h1 := Int.ediv_nonneg (a := k) (b := y) (by omega) (by omega)
  have h2 := Int.ediv_le_self (a := k) y (by omega)
  omega
 ·rw [Int.tdiv_eq_ediv_of_nonneg h]
  have h1 := Int.ediv_nonneg (a := x) (b := y) h (by omega)
  have h2 := Int.ediv_le_self (a := x) y h
  omega
theorem G.quoT (x y z : Int) (h : stopV P (adv P st) = .bin .quo (.int .i64 x) (.int .i64 y)) (hx : -9223372036854775807 ≤ x) (hx2 : x ≤ 9223372036854775807) (hy : 0 < y) (hz : x.tdiv y = z)
  (k : G P fn Post (nx (adv P st) (.int .i64 z)) u m) : G P fn Post st u m := by
 refine G.bin _ h guard_int (fun t w => ?_) k
 have hb := tdiv_bd hx hx2 hy hz
 have h4 : ¬ y = 0 := by omega
 simp [binOp, Op.intDiv, h4, hz, i64_wrap hb.1 hb.2]
theorem G.remT (x y z : Int) (h : stopV P (adv P st) = .bin .rem (.int .i64 x) (.int .i64 y)) (hy : 0 < y) (hz : x.tmod y = z) (h1 : -9223372036854775808 ≤ z) (h2 : z ≤ 9223372036854775807)
  (k : G P fn Post (nx (adv P st) (.int .i64 z)) u m) : G P fn Post st u m := by
 refine G.bin _ h guard_int (fun t w => ?_) k
 have h4 : ¬ y = 0 := by omega
 simp [binOp, Op.intDiv, h4, hz, i64_wrap h1 h2]
end rules
theorem BigP.nonneg {u : PH} {v : Value} {k : Nat} (h : BigP u v (k : Int)) : ∃ a n c, v = .agg #[.bool false, .slice a n c] ∧ IntsP u (.slice a n c) (limbs k) := by
 obtain ⟨a, n, c, h1, h2⟩ := h
 rw [decide_eq_false (by omega)] at h1
 exact ⟨a, n, c, h1, h2⟩
set_option maxHeartbeats 1000000 in
theorem bigGcd0 {u : PH} {x x' : Value} {y z : Int} (hx : BigP u x y) (hx' : BigP u x' z) (sy : nl y.natAbs ≤ 100000000000) (sz : nl z.natAbs ≤ 100000000000) :
  Fn0 Tryz.prog 168 [x, x'] u fun v u' => BigP u' v (Nat.gcd y.natAbs z.natAbs : Nat) := by
 obtain ⟨b, a, n, c, rfl, hb, hi⟩ := hx.opn
 obtain ⟨b', a', n', c', rfl, hb', hi'⟩ := hx'.opn
 refine Fn0.of Tryz.func168 (by kernel_rfl) (by kernel_rfl) ?_
 refine G.loop (ι := (Nat × Nat) × (Option Addr × Nat × Nat) × (Option Addr × Nat × Nat)) (fun _ => [(2, .p 0 0), (3, .p 1 0), (4, .p 2 0)])
  (fun i => [(0, ⟨122, [.v (.bool false), .v (.slice i.2.1.1 i.2.1.2.1 i.2.1.2.2)]⟩), (1, ⟨122, [.v (.bool false), .v (.slice i.2.2.1 i.2.2.2.1 i.2.2.2.2)]⟩), (2, ⟨122, [.v (.bool false), .v (.slice none 0 0)]⟩)])
  (fun i u' m' => (Nat.gcd i.1.1 i.1.2 = Nat.gcd y.natAbs z.natAbs ∧ nl i.1.1 ≤ 100000000000 ∧ nl i.1.2 ≤ 100000000000) ∧ IntsP u' (.slice i.2.1.1 i.2.1.2.1 i.2.1.2.2) (limbs i.1.1) ∧ IntsP u' (.slice i.2.2.1 i.2.2.2.1 i.2.2.2.2) (limbs i.1.2) ∧ m' = PH.mt) (fun i => i.1.2)
  ((y.natAbs, z.natAbs), (a, n, c), (a', n', c')) (by kernel_rfl) (fun _ => by kernel_rfl) ⟨by kernel_rfl, by kernel_rfl, by kernel_rfl⟩ ⟨⟨rfl, sy, sz⟩, hi, hi', rfl⟩ ?_
 clear hi hi' hx hx'
 rintro J ⟨⟨p, q⟩, ⟨a, n, c⟩, ⟨a', n', c'⟩⟩ hJ u' m' hle ⟨⟨hg, sp, sq⟩, hi, hi', rfl⟩
 simp only at hg sp sq hi hi' hJ
 obtain ⟨rfl, _⟩ := hi.len
 obtain ⟨rfl, _⟩ := hi'.len
 have sp' : (limbs p).length ≤ 100000000000 := sp
 have sq' : (limbs q).length ≤ 100000000000 := sq
 by_cases h0 : 0 < (limbs q).length
 ·have hq := len_pos.1 h0
  refine G.gtrT ((limbs q).length : Int) 0 (by kernel_rfl) (by omega) ?_
  have hP : BigP u' (.agg #[.bool false, .slice a (limbs p).length c]) (p : Int) := ⟨_, _, _, by rw [decide_eq_false (by omega)], hi⟩
  have hQ : BigP u' (.agg #[.bool false, .slice a' (limbs q).length c']) (q : Int) := ⟨_, _, _, by rw [decide_eq_false (by omega)], hi'⟩
  refine G.call0 _ _ (by kernel_rfl) Tryz.call204 (bigQuo0 hP hQ sp sq (by omega)) ?_
  rintro v1 u1 l1 ⟨va, vb, rfl, h1, h2⟩
  rw [tmod_nat] at h2
  obtain ⟨b1, a1, n1, c1, rfl, _, _⟩ := h1.opn
  obtain ⟨a2, n2, c2, rfl, h3⟩ := h2.nonneg
  exact G.back (by kernel_rfl) (hJ ((q, p % q), (a', (limbs q).length, c'), (a2, n2, c2)) _ _ _ ⟨by kernel_rfl, by kernel_rfl, by kernel_rfl⟩ (hle.trans l1) ⟨⟨by dsimp only; rw [Nat.gcd_comm q, ← Nat.gcd_rec, Nat.gcd_comm]; exact hg, sq, Nat.le_trans (nl_mono (Nat.le_of_lt (Nat.mod_lt _ hq))) sq⟩, hi'.mono l1, h3, rfl⟩ (Nat.mod_lt _ hq))
 ·have hq : q = 0 := by
   rcases Nat.eq_zero_or_pos q with h | h
   ·exact h
   ·exact absurd (len_pos.2 h) h0
  subst hq
  refine G.gtrF ((limbs 0).length : Int) 0 (by kernel_rfl) (by omega) ?_
  rw [Nat.gcd_zero_right] at hg
  exact G.ret (.agg #[.bool false, .slice a (limbs p).length c]) (by kernel_rfl) ⟨rfl, by rw [← hg]; exact ⟨_, _, _, by rw [decide_eq_false (by omega)], hi⟩⟩
structure OfSt (n k : Nat) (ys : List Nat) : Prop where
 low : Low ys
 sum : n = val ys + 1000000000 ^ ys.length * k
 top : ys ≠ [] → k = 0 → 0 < ys.getD (ys.length - 1) 0
theorem OfSt.start (n : Nat) : OfSt n n [] := ⟨Low.nil, by simp [val], fun h => absurd rfl h⟩
theorem OfSt.step {n k : Nat} {ys : List Nat} (h : OfSt n k ys) (hk : k ≠ 0) : OfSt n (k / 1000000000) (ys ++ [k % 1000000000]) := by
 refine ⟨h.low.append (Low.cons (by omega) Low.nil), ?_, fun _ h0 => ?_⟩
 ·have := h.sum
  rw [val_snoc, List.length_append, List.length_singleton, Nat.pow_succ, Nat.add_assoc, carry_split]; exact this
 ·rw [List.length_append, List.length_singleton, Nat.add_sub_cancel, List.getD_eq_getElem?_getD, List.getElem?_append_right (Nat.le_refl _)]
  simp; omega
theorem trim_top {l : List Nat} (h : l = [] ∨ 0 < l.getD (l.length - 1) 0) : trimTo l l.length = l.length := by
 rcases h with rfl | h
 ·rfl
 ·cases hl : l.length with
  | zero => rfl
  | succ n => rw [hl] at h; simp only [Nat.add_sub_cancel] at h; simp only [trimTo]; rw [if_neg (by omega)]
theorem OfSt.done {n : Nat} {ys : List Nat} (h : OfSt n 0 ys) : ys = limbs n := by
 have hs := h.sum
 rw [Nat.mul_zero, Nat.add_zero] at hs
 rw [hs, limbs_trim h.low, trim_top, List.take_length]
 by_cases he : ys = []
 ·exact .inl he
 ·exact .inr (h.top he rfl)
theorem sgnd_tmod (b : Bool) (k : Nat) : (sgnd b k).tmod 1000000000 = sgnd b (k % 1000000000) := by
 unfold sgnd; cases b
 ·exact tmod_nat k 1000000000
 ·show (-(k : Int)).tmod 1000000000 = -((k % 1000000000 : Nat) : Int)
  rw [Int.neg_tmod]; exact congrArg _ (tmod_nat k 1000000000)
theorem sgnd_tdiv (b : Bool) (k : Nat) : (sgnd b k).tdiv 1000000000 = sgnd b (k / 1000000000) := by
 unfold sgnd; cases b
 ·exact tdiv_nat k 1000000000
 ·show (-(k : Int)).tdiv 1000000000 = -((k / 1000000000 : Nat) : Int)
  rw [Int.neg_tdiv]; exact congrArg _ (tdiv_nat k 1000000000)
set_option maxHeartbeats 1000000 in
theorem bigOf0 {u : PH} {n : Int} (h1 : -9223372036854775807 ≤ n) (h2 : n ≤ 9223372036854775807) :
  Fn0 Tryz.prog 119 [.int .i64 n] u fun v u' => BigP u' v n := by
 refine Fn0.of Tryz.func119 (by kernel_rfl) (by kernel_rfl) ?_
 have key : ∀ b : Bool, b = decide (n < 0) → G Tryz.prog Tryz.f119 ⟨fun v u' m' => m' = PH.mt ∧ BigP u' v n, PH.mt⟩ (nx (adv Tryz.prog (st0 Tryz.f119 [.int .i64 n])) (.bool b)) u PH.mt := by
  intro b hb
  have hn := sgnd_self n
  rw [← hb] at hn
  refine G.loop (ι := Nat × List Nat × (Option Addr × Nat × Nat)) (fun i => [(2, .p 0 0), (3, .p 1003 0), (0, .v (.int .i64 (sgnd b i.1)))])
   (fun i => [(0, ⟨122, [.v (.bool false), .v (.slice none 0 0)]⟩), (1003, ⟨122, [.v (.bool b), .v (.slice i.2.2.1 i.2.2.2.1 i.2.2.2.2)]⟩)])
   (fun i u' m' => (i.1 ≤ 9223372036854775807 ∧ (i.1 ≠ 0 → i.2.1.length ≤ 3) ∧ i.2.1.length ≤ 4 ∧ i.1 * 1000000000 ^ i.2.1.length ≤ 9223372036854775807) ∧ OfSt n.natAbs i.1 i.2.1 ∧ ArrAt PH.mt m' (.slice i.2.2.1 i.2.2.2.1 i.2.2.2.2) 3 1 (intsV i.2.1)) (fun i => i.1) (n.natAbs, [], (none, 0, 0)) (by kernel_rfl) (fun _ => by kernel_rfl) ⟨by kernel_rfl, by rw [hn]; kernel_rfl, by kernel_rfl⟩ ⟨⟨by dsimp only; omega, by simp, by simp, by simp; omega⟩, OfSt.start _, ArrAt.nil _ _ _⟩ ?_
  rintro J ⟨k, ys, ⟨a, ny, c⟩⟩ hJ u' m' hle ⟨⟨hk, hk2, hk3, hk4⟩, hst, hA⟩
  simp only at hk hk2 hk3 hk4 hst hA hJ
  have hys := hA.len
  rw [intsV_length] at hys
  have hsk : -9223372036854775807 ≤ sgnd b k ∧ sgnd b k ≤ 9223372036854775807 := by unfold sgnd; split <;> omega
  by_cases h0 : k = 0
  ·subst h0
   refine G.neqF (sgnd b 0) 0 (by kernel_rfl) (by unfold sgnd; split <;> simp) ?_
   refine G.give PH.mt (intsV ys) _ (by kernel_rfl) hA (fun _ => .inl rfl) ?_
   intro u1 l1 hL
   refine G.ret (.agg #[.bool b, .slice a ny c]) (by kernel_rfl) ⟨rfl, a, ny, c, by rw [hb], ?_⟩
   rw [← hst.done]; exact hL
  ·have hlt3 := hk2 h0
   refine G.neqT (sgnd b k) 0 (by kernel_rfl) (by unfold sgnd; split <;> omega) ?_
   have hnext : (k / 1000000000 ≤ 9223372036854775807 ∧ (k / 1000000000 ≠ 0 → (ys ++ [k % 1000000000]).length ≤ 3) ∧ (ys ++ [k % 1000000000]).length ≤ 4 ∧ k / 1000000000 * 1000000000 ^ (ys ++ [k % 1000000000]).length ≤ 9223372036854775807) := by
    have e4 : k / 1000000000 * 1000000000 ^ (ys.length + 1) ≤ 9223372036854775807 := by
     rw [Nat.pow_succ, Nat.mul_comm (1000000000 ^ ys.length), ← Nat.mul_assoc]
     exact Nat.le_trans (Nat.mul_le_mul_right _ (Nat.div_mul_le_self _ _)) hk4
    refine ⟨by omega, fun hne => ?_, by simp; omega, by simpa using e4⟩
    rcases Nat.lt_or_ge ys.length 3 with h | h
    ·simp; omega
    ·exfalso
     have : ys.length = 3 := by omega
     rw [this] at e4
     have h1 : 1 * 1000000000 ^ (3 + 1) ≤ k / 1000000000 * 1000000000 ^ (3 + 1) := Nat.mul_le_mul_right _ (by omega)
     have h2 : (9223372036854775807 : Nat) < 1 * 1000000000 ^ (3 + 1) := by decide
     omega
   by_cases hb2 : b = true ∧ k % 1000000000 ≠ 0
   ·obtain ⟨hbt, hm⟩ := hb2
    refine G.remT (sgnd b k) 1000000000 (-((k % 1000000000 : Nat) : Int)) (by kernel_rfl) (by omega) (by rw [sgnd_tmod, hbt]; rfl) (by omega) (by omega) ?_
    refine G.lssT (-((k % 1000000000 : Nat) : Int)) 0 (by kernel_rfl) (by omega) ?_
    refine G.neg (-((k % 1000000000 : Nat) : Int)) ((k % 1000000000 : Nat) : Int) (by kernel_rfl) (by omega) (by omega) (by omega) ?_
    refine G.buildU 3 1 8 (.int .i64 0) [.int .i64 ((k % 1000000000 : Nat) : Int)] (by kernel_rfl) (intsV_ok [k % 1000000000]) rfl (by omega) (by simp) (by simp) ?_
    intro g u1 l1 e1
    refine G.append 3 1 8 (.int .i64 0) PH.mt (intsV ys) [.int .i64 ((k % 1000000000 : Nat) : Int)] (.slice a ny c) g 0 1 1 (by kernel_rfl) rfl rfl (by omega) hA e1 (intsV_ok [k % 1000000000]) rfl (by omega) (by rw [intsV_length]; omega) (by rw [intsV_length]; omega) ?_
    intro v2 m2 hA2
    rw [intsV_snoc] at hA2
    obtain ⟨a2, c2, rfl⟩ := hA2.shape
    refine G.quoT (sgnd b k) 1000000000 (sgnd b (k / 1000000000)) (by kernel_rfl) (by omega) (by omega) (by omega) (sgnd_tdiv b k) ?_
    exact G.back (by kernel_rfl) (hJ (k / 1000000000, ys ++ [k % 1000000000], (a2, (intsV (ys ++ [k % 1000000000])).length, c2)) _ _ _ ⟨by kernel_rfl, by kernel_rfl, by kernel_rfl⟩ (hle.trans l1) ⟨hnext, hst.step h0, hA2⟩ (by dsimp only; omega))
   ·refine G.remT (sgnd b k) 1000000000 ((k % 1000000000 : Nat) : Int) (by kernel_rfl) (by omega) (by rw [sgnd_tmod]; unfold sgnd; split <;> simp_all) (by omega) (by omega) ?_
    refine G.lssF ((k % 1000000000 : Nat) : Int) 0 (by kernel_rfl) (by omega) ?_
    refine G.buildU 3 1 8 (.int .i64 0) [.int .i64 ((k % 1000000000 : Nat) : Int)] (by kernel_rfl) (intsV_ok [k % 1000000000]) rfl (by omega) (by simp) (by simp) ?_
    intro g u1 l1 e1
    refine G.append 3 1 8 (.int .i64 0) PH.mt (intsV ys) [.int .i64 ((k % 1000000000 : Nat) : Int)] (.slice a ny c) g 0 1 1 (by kernel_rfl) rfl rfl (by omega) hA e1 (intsV_ok [k % 1000000000]) rfl (by omega) (by rw [intsV_length]; omega) (by rw [intsV_length]; omega) ?_
    intro v2 m2 hA2
    rw [intsV_snoc] at hA2
    obtain ⟨a2, c2, rfl⟩ := hA2.shape
    refine G.quoT (sgnd b k) 1000000000 (sgnd b (k / 1000000000)) (by kernel_rfl) (by omega) (by omega) (by omega) (sgnd_tdiv b k) ?_
    exact G.back (by kernel_rfl) (hJ (k / 1000000000, ys ++ [k % 1000000000], (a2, (intsV (ys ++ [k % 1000000000])).length, c2)) _ _ _ ⟨by kernel_rfl, by kernel_rfl, by kernel_rfl⟩ (hle.trans l1) ⟨hnext, hst.step h0, hA2⟩ (by dsimp only; omega))
 by_cases hneg : n < 0
 ·exact G.lssT n 0 (by kernel_rfl) hneg (key true (by simpa using hneg))
 ·exact G.lssF n 0 (by kernel_rfl) hneg (key false (by simpa using hneg))
end Go.Proofs.YtpdboaedoimahaaGreatDoor
end
