/- Joined out of parts of one proof by a program: contracts of the functions that the statement reaches, and the plain facts behind them. -/
import Derived.Test.YtldokelpolbnnaaGreatDoorJD09
set_option linter.unusedVariables false
set_option linter.unusedSimpArgs false
set_option linter.unusedSectionVars false
section
set_option linter.unusedSectionVars false
set_option linter.unusedVariables false
namespace Go.Proofs.YtldokelpolbnnaaGreatDoor
open Go.RowKit
section rules
variable {P : Program} [Mixed P] {fn : Func} {Post : Spec} {st : List KI × S} {u m : PH}
theorem G.buildM (e : TypeId) (sz bt : Nat) (z : Value) (es : List Value) (h : stopV P (adv P st) = .buildS (some (e, sz, bt, z)) es.length (es.zipIdx.map fun p => (p.2, p.1))) (ho : ElsOK sz es) (hzs : z.cells.size = sz) (hsz : 0 < sz) (hn0 : 0 < es.length) (hb : es.length * sz ≤ 16777216)
    (k : ∀ g m', ArrAt m m' (.slice (some ⟨g, 0, none⟩) es.length es.length) e sz es → G P fn Post (nx (adv P st) (.slice (some ⟨g, 0, none⟩) es.length es.length)) u m') : G P fn Post st u m := by
  refine G.big (K := fun v' u' m' => u' = u ∧ PH.le m m' ∧ ∃ g, v' = .slice (some ⟨g, 0, none⟩) es.length es.length ∧ ArrAt m m' (.slice (some ⟨g, 0, none⟩) es.length es.length) e sz es) h (by simp) (fun env op hv => ?_) (.inl fun v u' m' hk => hk.2.1) (fun env o hview w hgd => ?_) (fun v' u' m' hle hk => ?_)
  · obtain ⟨t, qs, rfl, _⟩ := view_buildS hv; rfl
  · obtain ⟨t, qs, e1, e2, hi⟩ := view_buildS hview
    obtain ⟨dst, opp, type, pos, after, guard⟩ := o
    simp only at e1; subst e1
    obtain ⟨hu, i, hi1, hi2, rfl, rfl⟩ := elInfo_spec hi
    obtain ⟨g1, g2, g3, g4⟩ := hgd.newM (cs := (flat es).toArray) (t := e) (by simpa using flat_ok ho)
    have hfl := flat_length ho
    have hne : es.length * i.size ≠ 0 := by have := Nat.mul_pos hn0 hsz; omega
    have hfill := fill_els es 0 ((Array.range (es.length * i.size)).map (z.cells[· % z.cells.size]!)) ho (by simp)
    have e0 : ((Array.range (es.length * i.size)).map (z.cells[· % z.cells.size]!)).toList.drop (es.length * i.size) = [] := by
      apply List.drop_eq_nil_of_le; simp
    simp only [Nat.zero_mul, List.take_zero, List.nil_append, Nat.zero_add, e0, List.append_nil] at hfill
    refine does_value (w' := w.alloc (.cells (flat es).toArray e (0, 0))) (v := .slice (some ⟨w.heap.size, 0, none⟩) es.length es.length) ?_ ⟨u, _, g1, g2, rfl, le_upd _ g3, _, rfl, ho, .inr ⟨w.heap.size, es.length, [], g3, by rw [List.append_nil], rfl, Nat.le_refl _, by rw [List.append_nil, hfl], by simp⟩⟩
    simp only [execOp, e2]
    simp [Instr.buildSlice, run_underlying hu, sizeOf, typeInfo, zeroValue, hi1, hi2, hne, hfill, newRow, show ¬ 16777216 < es.length * i.size by omega]
  · obtain ⟨rfl, _, g, rfl, hk⟩ := hk
    exact k g m' hk
end rules
def pc9 (x y : F4) (k : Nat) : Value := .agg #[.bool x.b, .slice x.a x.n x.c, .bool x.b', .slice x.a' x.n' x.c', .bool y.b, .slice y.a y.n y.c, .bool y.b', .slice y.a' y.n' y.c', .int .i64 (k : Int)]
theorem pc9_ok (x y : F4) (k : Nat) : ElsOK 9 [pc9 x y k] := by
  intro v hv
  simp at hv; subst hv
  refine ⟨rfl, fun z hz => ?_⟩
  simp [pc9, Value.cells] at hz
  rcases hz with rfl | rfl | rfl | rfl | rfl | rfl | rfl | rfl | rfl <;> rfl
def zP : Value := .agg #[.bool false, .slice none 0 0, .bool false, .slice none 0 0, .bool false, .slice none 0 0, .bool false, .slice none 0 0, .int .i64 0]
structure Pc where
  x : F4
  y : F4
  lo : Rat
  hi : Rat
  k : Nat
def Pc.val (p : Pc) : Value := pc9 p.x p.y p.k
def Pc.plain (p : Pc) : Rat × Rat × Nat := (p.lo, p.hi, p.k)
structure PcOK (u : PH) (p : Pc) : Prop where
  lo : FracP u (fv p.x) p.lo
  hi : FracP u (fv p.y) p.hi
  k : p.k ≤ 60
theorem PcOK.mono {u u' : PH} {p : Pc} (h : PcOK u p) (hl : PH.le u u') : PcOK u' p := ⟨h.lo.mono hl, h.hi.mono hl, h.k⟩
def stArr (v : Value) (es : List Value) : Arr := ⟨v, 105, 9, es⟩
def ivArr (v : Value) (es : List Value) : Arr := ⟨v, 59, 2, es⟩
def muArr (v : Value) (es : List Value) : Arr := ⟨v, 3, 1, es⟩
def ivV (x : Rat × Rat × Int) : Value := .agg #[.string (mkS (ratT x.1)), .string (mkS (ratT x.2.1))]
def muV (x : Rat × Rat × Int) : Value := .int .i64 x.2.2
theorem ivV_ok (l : List (Rat × Rat × Int)) : ElsOK 2 (l.map ivV) := by
  intro e he
  obtain ⟨x, _, rfl⟩ := List.mem_map.1 he
  exact ⟨rfl, fun y hy => by simp [ivV, Value.cells] at hy; rcases hy with rfl | rfl <;> rfl⟩
theorem muV_ok (l : List (Rat × Rat × Int)) : ElsOK 1 (l.map muV) := by
  intro e he
  obtain ⟨x, _, rfl⟩ := List.mem_map.1 he
  exact ⟨rfl, fun y hy => by simp [muV, Value.cells] at hy; subst hy; rfl⟩
def SpecP (u : PH) (v : Value) (res : List (Rat × Rat × Int)) : Prop := ∃ a c a' c', v = .agg #[.slice a res.length c, .slice a' res.length c'] ∧ ListP u (.slice a res.length c) 2 (res.map ivV) ∧ ListP u (.slice a' res.length c') 1 (res.map muV)
structure SpI where
  f : Nat
  st : List Pc
  out : List (Rat × Rat × Int)
  sa : Option Addr
  sn : Nat
  sc : Nat
  ia : Option Addr
  ic : Nat
  ma : Option Addr
  mc : Nat
def specR (all sim : List Rat) (h : Nat) : Nat → List (Rat × Rat × Nat) → List (Rat × Rat × Int) → Option (Option (List (Rat × Rat × Int)))
  | 0, _, _ => none
  | _ + 1, [], out => some (some out)
  | f + 1, x :: st, out =>
    if smallB x.1 && smallB x.2.1 then
      if withinL sim x.1 x.2.1 = 0 then specR all sim h f st out
      else if withinL sim x.1 x.2.1 = 1 ∧ h ≤ x.2.2 then specR all sim h f st (out ++ [(x.1, x.2.1, withinL all x.1 x.2.1)])
      else if 60 ≤ x.2.2 then some none
      else specR all sim h f ((x.1, (x.1 + x.2.1) / 2, x.2.2 + 1) :: ((x.1 + x.2.1) / 2, x.2.1, x.2.2 + 1) :: st) out
    else none
theorem specR_of {all sim : List Rat} {h : Nat} {res : List (Rat × Rat × Int)} : ∀ (f : Nat) (st : List (Rat × Rat × Nat)) (out : List (Rat × Rat × Int)), specGo all sim h f st out = some res → specR all sim h f st out = some (some res)
  | 0, _, _, e => by simp [specGo] at e
  | f + 1, [], out, e => by simp only [specGo, Option.some.injEq] at e; rw [specR, e]
  | f + 1, x :: st, out, e => by
    rw [specGo] at e
    rw [specR]
    split at e
    · rename_i h1
      rw [if_pos h1]
      split at e
      · rename_i h2
        rw [if_pos h2]; exact specR_of f _ _ e
      · rename_i h2
        rw [if_neg h2]
        split at e
        · rename_i h3
          rw [if_pos h3]; exact specR_of f _ _ e
        · rename_i h3
          rw [if_neg h3]
          split at e
          · cases e
          · rename_i h4
            rw [if_neg h4]; exact specR_of f _ _ e
    · cases e
def SpecRes (u : PH) (v : Value) : Option (List (Rat × Rat × Int)) → Prop
  | some res => ∃ r, v = .tuple #[r, .int .i64 0] ∧ SpecP u r res
  | none => v = .tuple #[.agg #[.slice none 0 0, .slice none 0 0], .int .i64 3]
theorem SpecRes.mk {u : PH} {v : Value} {res : List (Rat × Rat × Int)} (h : ∃ r, v = .tuple #[r, .int .i64 0] ∧ SpecP u r res) : SpecRes u v (some res) := h
set_option maxHeartbeats 8000000 in
theorem spectrumG {u : PH} {v : Value} {A : List (List Rat)} {T S fS F fu h : Nat} {res : Option (List (Rat × Rat × Int))} (ht : TabU u) (hm : MatP u v (matT A)) (hA : Nice A T) (htx : ∀ q ∈ charL A, Tx q) (hSS : SzL (charL A) (cb T A.length) → SzL (charL A) S) (hST : S + 13 ≤ 500000) (hh : h ≤ 60) (hS : SimP fS (charL A))
    (hs1 : simpL fS (charL A) ≠ []) (hs2 : (simpL fS (charL A)).length ≤ 5) (hs3 : gR (simpL fS (charL A)) ((simpL fS (charL A)).length - 1) ≠ 0) (hs4 : SzL (simpL fS (charL A)) 400000)
    (hb : bndB F A A.length 0 1 = true) (hb2 : smallB (bndL F A) = true) (hfu : fu ≤ 100000) (hgo : specR (charL A) (simpL fS (charL A)) h fu [(-(bndL F A + 1), bndL F A + 1, 0)] [] = some res) :
    Fn0 Tryz.prog 24 [v, .int .i64 (h : Int)] u fun v' u' => SpecRes u' v' res := by
  have hpo := fun (u' : PH) (v : Value) (ht' : TabU u') (hv : MatP u' v (matT A)) => polynomial0 ht' hv hA htx
  have hch := fun (u' : PH) (v : Value) (hv : MatP u' v (matT A)) => char0 hv hA.sq hA.le hA.tle hA.sz
  have hbo := fun (u' : PH) (v : Value) (hv : MatP u' v (matT A)) => bound0 hv hA hb
  have hle := hA.le
  have hcl := charL_length A
  have hclast : gR (charL A) ((charL A).length - 1) ≠ 0 := by rw [hcl, Nat.add_sub_cancel, charL_last]; decide
  have hcne : charL A ≠ [] := by intro e; rw [e] at hcl; simp at hcl
  have one : ((1 : Int) : Rat) = 1 := by decide
  have two : ((2 : Int) : Rat) = 2 := by decide
  have two0 : (2 : Rat) ≠ 0 := by decide
  have s2 : Sz (2 : Rat) 1 := sz_one (z := 2) (by decide)
  generalize hsim : simpL fS (charL A) = sim at *
  generalize hall : charL A = all at *
  obtain ⟨hbt, hbs⟩ := smallB_spec hb2
  have hes : Sz (bndL F A + 1) 14 := (sz_add2 hbs (sz_one (z := 1) (by decide))).mono (by omega)
  obtain ⟨a, c, rfl⟩ := hm.opn
  refine Fn0.of Tryz.func24 (by kernel_rfl) (by kernel_rfl) ?_
  refine G.call0 _ _ (by kernel_rfl) Tryz.call16 (hpo _ _ ht hm) ?_
  rintro v1 u1 l1 ⟨r1, rfl, k1⟩
  obtain ⟨a1, c1, rfl⟩ := ListP.opn k1
  refine G.neqF 0 0 (by kernel_rfl) (by omega) ?_
  refine G.lssF (h : Int) 0 (by kernel_rfl) (by omega) ?_
  refine G.gtrF (h : Int) 60 (by kernel_rfl) (by omega) ?_
  refine G.call0 _ _ (by kernel_rfl) Tryz.call48 (hch _ _ (hm.mono l1)) ?_
  rintro v2 u2 l2 ⟨k2, sz2⟩
  replace sz2 := hSS sz2
  obtain ⟨a2, c2, rfl⟩ := k2.opn
  refine G.call0 _ _ (by kernel_rfl) Tryz.call57 (simple0 k2 hS) ?_
  intro v3 u3 l3 k3
  rw [hsim] at k3
  obtain ⟨a3, c3, rfl⟩ := k3.opn
  refine G.call0 _ _ (by kernel_rfl) Tryz.call58 (hbo _ _ (hm.mono ((l1.trans l2).trans l3))) ?_
  intro v4 u4 l4 k4
  obtain ⟨f4, rfl⟩ := k4.opF
  refine G.call0 _ _ (by kernel_rfl) Tryz.call60 (fracOf0 (z := 1) (by omega) (by omega)) ?_
  intro v5 u5 l5 k5
  rw [one] at k5
  obtain ⟨f5, rfl⟩ := k5.opF
  refine G.call0 _ _ (by kernel_rfl) Tryz.call59 (fracAdd0 (k4.mono l5) k5 (hbs.mono (by omega)) ((sz_one (z := 1) (by decide)).mono (by omega))) ?_
  intro v6 u6 l6 k6
  obtain ⟨f6, rfl⟩ := k6.opF
  generalize bndL F A + 1 = E at *
  refine G.call0 _ _ (by kernel_rfl) Tryz.call61 (fracNeg0 k6 (Nat.le_trans hes.1 (by omega))) ?_
  intro v7 u7 l7 k7
  obtain ⟨f7, rfl⟩ := k7.opF
  refine G.buildM 105 9 136 zP [pc9 f7 f6 0] (by kernel_rfl) (pc9_ok _ _ _) rfl (by omega) (by simp) (by simp) ?_
  intro g8 m8 hA8
  have hlu : PH.le u u7 := (((((l1.trans l2).trans l3).trans l4).trans l5).trans l6).trans l7
  have hbag0 : Bag m8 [stArr (.slice (some ⟨g8, 0, none⟩) 1 1) [pc9 f7 f6 0], ivArr (.slice none 0 0) [], muArr (.slice none 0 0) []] := ⟨PH.mt, hA8, PH.mt, ArrAt.nil _ _ _, PH.mt, ArrAt.nil _ _ _, trivial⟩
  refine G.loop (ι := SpI) (fun i => [(1, .v (.int .i64 (h : Int))), (4, .p 0 0), (8, .v (.slice a2 all.length c2)), (9, .v (.slice a3 sim.length c3)), (11, .v (.slice i.sa i.sn i.sc)), (12, .p 10000 0)])
    (fun i => [(0, ⟨54, [.v (.slice none 0 0), .v (.slice none 0 0)]⟩), (10000, ⟨54, [.v (.slice i.ia i.out.length i.ic), .v (.slice i.ma i.out.length i.mc)]⟩)])
    (fun i u' m' => specR all sim h i.f (i.st.map Pc.plain) i.out = some res ∧ i.f ≤ fu ∧ i.sn = i.st.length ∧ i.st.length + i.f ≤ fu + 1 ∧ i.out.length + i.f ≤ fu ∧ (∀ p ∈ i.st, PcOK u' p) ∧ Bag m' [stArr (.slice i.sa i.sn i.sc) (i.st.map Pc.val).reverse, ivArr (.slice i.ia i.out.length i.ic) (i.out.map ivV), muArr (.slice i.ma i.out.length i.mc) (i.out.map muV)])
    (fun i => i.f) ⟨fu, [⟨f7, f6, -E, E, 0⟩], [], some ⟨g8, 0, none⟩, 1, 1, none, 0, none, 0⟩ (by kernel_rfl) (fun _ => by kernel_rfl) ⟨by kernel_rfl, by kernel_rfl, by kernel_rfl⟩
    ⟨hgo, Nat.le_refl _, rfl, by simp; omega, by simp, fun p hp => by simp at hp; subst hp; exact ⟨k7, k6.mono l7, Nat.zero_le _⟩, hbag0⟩ ?_
  clear hbag0 hA8
  rintro J ⟨f, st, out, sa, sn, sc, ia, ic, ma, mc⟩ hJ u8 m9 l8 ⟨hg, hf, hsn, hfl, hol, hpk, hbag⟩
  simp only at hg hf hsn hfl hol hpk hbag hJ
  subst hsn
  have hlu8 : PH.le u u8 := hlu.trans l8
  have kall : FracsP u8 (.slice a2 all.length c2) all := k2.mono (((((l3.trans l4).trans l5).trans l6).trans l7).trans l8)
  have ksim : FracsP u8 (.slice a3 sim.length c3) sim := k3.mono ((((l4.trans l5).trans l6).trans l7).trans l8)
  cases f with
  | zero => simp [specR] at hg
  | succ f =>
    cases st with
    | nil =>
      refine G.gtrF ((0 : Nat) : Int) 0 (by kernel_rfl) (by omega) ?_
      simp only [List.map_nil, specR, Option.some.injEq] at hg
      subst hg
      obtain ⟨m0, hx0, hbag2⟩ := hbag.take 1 rfl
      refine G.give m0 (out.map ivV) (.slice ia out.length ic) (t := 59) (sz := 2) (by kernel_rfl) hx0 (fun _ => .inl rfl) ?_
      intro u9 l9 hL9
      obtain ⟨m1, hx1, _⟩ := hbag2.take 1 rfl
      refine G.give m1 (out.map muV) (.slice ma out.length mc) (t := 3) (sz := 1) (by kernel_rfl) hx1 (fun _ => .inl rfl) ?_
      intro u10 l10 hL10
      refine G.drop PH.mt (by kernel_rfl) (PH.mt_le _) ?_
      exact G.ret (.tuple #[.agg #[.slice ia out.length ic, .slice ma out.length mc], .int .i64 0]) (by kernel_rfl) ⟨rfl, SpecRes.mk ⟨_, rfl, ia, ic, ma, mc, rfl, hL9.mono l10, hL10⟩⟩
    | cons p st =>
      obtain ⟨px, py, lo, hi, k⟩ := p
      have hp := hpk ⟨px, py, lo, hi, k⟩ (by simp)
      obtain ⟨hplo, hphi, hpkk⟩ := hp
      simp only at hplo hphi hpkk
      simp only [List.map_cons, Pc.plain, specR] at hg
      have hsm : (smallB lo && smallB hi) = true := by
        cases hc : (smallB lo && smallB hi) with
        | true => rfl
        | false => simp [hc] at hg
      rw [if_pos hsm] at hg
      rw [Bool.and_eq_true] at hsm
      obtain ⟨tlo, slo⟩ := smallB_spec hsm.1
      obtain ⟨thi, shi⟩ := smallB_spec hsm.2
      have hrev : ((⟨px, py, lo, hi, k⟩ :: st).map Pc.val).reverse = (st.map Pc.val).reverse ++ [pc9 px py k] := by simp [Pc.val]
      rw [hrev] at hbag
      obtain ⟨gs, cs, e⟩ := hbag.ptr 0 rfl (by simp [stArr])
      simp only [stArr, Value.slice.injEq] at e
      obtain ⟨rfl, _, rfl⟩ := e
      simp only [List.length_cons] at hfl hbag ⊢
      have hcap : st.length + 1 ≤ sc := by
        obtain ⟨m0, hx0, _⟩ := hbag.focus 0 rfl
        exact ArrAt.cap (show ArrAt m0 m9 (.slice (some ⟨gs, 0, none⟩) (st.length + 1) sc) _ 9 _ from hx0)
      have hEl : ElP m9 gs (0 + st.length * 9) (pc9 px py k) := hbag.el 0 rfl rfl (by show ((st.map Pc.val).reverse ++ [pc9 px py k])[st.length]? = _; rw [List.getElem?_append_right (by simp)]; simp)
      refine G.gtrT ((st.length + 1 : Nat) : Int) 0 (by kernel_rfl) (by omega) ?_
      refine G.sub ((st.length + 1 : Nat) : Int) 1 (st.length : Int) (by kernel_rfl) (by omega) (by omega) (by omega) ?_
      refine G.addr gs 0 (st.length + 1) sc st.length 9 (by kernel_rfl) (by omega) ?_
      refine G.loadM (some 9) gs (0 + st.length * 9) _ (by kernel_rfl) (by kernel_rfl) hEl ?_
      refine G.sub ((st.length + 1 : Nat) : Int) 1 (st.length : Int) (by kernel_rfl) (by omega) (by omega) (by omega) ?_
      refine G.sliceTo 9 (some ⟨gs, 0, none⟩) (st.length + 1) sc st.length (by kernel_rfl) (by omega) ?_
      have hbag2 : Bag m9 [stArr (.slice (some ⟨gs, 0, none⟩) st.length sc) (st.map Pc.val).reverse, ivArr (.slice ia out.length ic) (out.map ivV), muArr (.slice ma out.length mc) (out.map muV)] := by
        obtain ⟨m0, hx0, hput⟩ := hbag.focus 0 rfl
        have hx1 := ArrAt.take (show ArrAt m0 m9 (.slice (some ⟨gs, 0, none⟩) (st.length + 1) sc) 105 9 ((st.map Pc.val).reverse ++ [pc9 px py k]) from hx0) (k := st.length) (by simp)
        rw [List.take_left' (by simp)] at hx1
        exact hput (stArr (.slice (some ⟨gs, 0, none⟩) st.length sc) (st.map Pc.val).reverse) m9 hx1
      clear hbag hEl
      have hpk' : ∀ p ∈ st, PcOK u8 p := fun p hp => hpk p (by simp [hp])
      refine G.call0 _ _ (by kernel_rfl) Tryz.call62 (within0 (y := fv px) (z := fv py) (T := 12) ksim hplo hphi hs4 slo shi (by omega) hs2 hs1 hs3) ?_
      rintro v10 u10 l10 rfl
      by_cases hn0 : withinL sim lo hi = 0
      · rw [if_pos hn0] at hg
        refine G.eqlT (withinL sim lo hi) 0 (by kernel_rfl) hn0 ?_
        exact G.back (by kernel_rfl) (hJ ⟨f, st, out, some ⟨gs, 0, none⟩, st.length, sc, ia, ic, ma, mc⟩ _ _ _ ⟨by kernel_rfl, by kernel_rfl, by kernel_rfl⟩ (l8.trans l10) ⟨hg, by dsimp only; omega, rfl, by dsimp only; omega, by dsimp only; omega, fun p hp => (hpk' p hp).mono l10, hbag2⟩ (by dsimp only; omega))
      · rw [if_neg hn0] at hg
        refine G.eqlF (withinL sim lo hi) 0 (by kernel_rfl) hn0 ?_
        by_cases hn1 : withinL sim lo hi = 1 ∧ h ≤ k
        · rw [if_pos hn1] at hg
          refine G.eqlT (withinL sim lo hi) 1 (by kernel_rfl) hn1.1 ?_
          refine G.geqT (k : Int) (h : Int) (by kernel_rfl) (by omega) ?_
          refine G.buildU 90 4 64 zF [fv px, fv py] (by kernel_rfl) (ElsOK.append (a := [fv px]) (b := [fv py]) (fv_ok _) (fv_ok _)) rfl (by omega) (by simp) (by simp) ?_
          intro g11 u11 l11 e11
          have hFP : FracsP u11 (.slice (some ⟨g11, 0, none⟩) 2 2) [lo, hi] := ⟨[fv px, fv py], ⟨_, 2, rfl, Nat.le_refl _, fun j e hj => ⟨g11, 0, rfl, e11 j e hj⟩⟩, by
            have h1 := AtP.snoc (R := FracP) (u := u11) (es := []) (xs := []) AtP.nil (hplo.mono (l10.trans l11))
            exact h1.snoc (hphi.mono (l10.trans l11))⟩
          refine G.call0 _ _ (by kernel_rfl) Tryz.call51 (fracTexts0 (ht.mono ((hlu8.trans l10).trans l11)) hFP (by intro q hq; simp at hq; rcases hq with rfl | rfl; exact tlo; exact thi) (by simp)) ?_
          rintro v12 u12 l12 ⟨r12, rfl, k12⟩
          obtain ⟨a12, c12, rfl⟩ := ListP.opn k12
          refine G.neqF 0 0 (by kernel_rfl) (by omega) ?_
          obtain ⟨b13, o13, rfl, e13⟩ := ListP.at' k12 (j := 0) (e := .string (mkS (ratT lo))) rfl
          obtain ⟨b14, o14, eq14, e14⟩ := ListP.at' k12 (j := 1) (e := .string (mkS (ratT hi))) rfl
          cases eq14
          refine G.addr b13 o13 2 c12 0 1 (by kernel_rfl) (by omega) ?_
          refine G.loadU none b13 (o13 + 0 * 1) _ (by kernel_rfl) (by kernel_rfl) e13 ?_
          refine G.addr b13 o13 2 c12 1 1 (by kernel_rfl) (by omega) ?_
          refine G.loadU none b13 (o13 + 1 * 1) _ (by kernel_rfl) (by kernel_rfl) e14 ?_
          refine G.buildU 59 2 32 (.agg #[.string (mkS []), .string (mkS [])]) [ivV (lo, hi, withinL all lo hi)] (by kernel_rfl) (ivV_ok [(lo, hi, withinL all lo hi)]) rfl (by omega) (by simp) (by simp) ?_
          intro g15 u15 l15 e15
          obtain ⟨m0, hx0, hput⟩ := hbag2.focus 1 rfl
          refine G.append 59 2 32 (.agg #[.string (mkS []), .string (mkS [])]) m0 (out.map ivV) [ivV (lo, hi, withinL all lo hi)] (.slice ia out.length ic) g15 0 1 1 (by kernel_rfl) rfl rfl (by omega) hx0 e15 (ivV_ok [(lo, hi, withinL all lo hi)]) rfl (by omega) (by simp; omega) (by simp; omega) ?_
          intro v16 m16 hx16
          obtain ⟨a16, c16, rfl⟩ := hx16.shape
          have hbag3 := hput (ivArr (.slice a16 (out.map ivV ++ [ivV (lo, hi, withinL all lo hi)]).length c16) (out.map ivV ++ [ivV (lo, hi, withinL all lo hi)])) m16 hx16
          refine G.call0 _ _ (by kernel_rfl) Tryz.call62 (within0 (y := fv px) (z := fv py) (T := 12) (kall.mono (((l10.trans l11).trans l12).trans l15)) (hplo.mono (((l10.trans l11).trans l12).trans l15)) (hphi.mono (((l10.trans l11).trans l12).trans l15)) sz2 slo shi (by omega) (by omega) hcne hclast) ?_
          rintro v17 u17 l17 rfl
          refine G.buildU 3 1 8 (.int .i64 0) [muV (lo, hi, withinL all lo hi)] (by kernel_rfl) (muV_ok [(lo, hi, withinL all lo hi)]) rfl (by omega) (by simp) (by simp) ?_
          intro g18 u18 l18 e18
          obtain ⟨m0', hx0', hput'⟩ := hbag3.focus 2 rfl
          refine G.append 3 1 8 (.int .i64 0) m0' (out.map muV) [muV (lo, hi, withinL all lo hi)] (.slice ma out.length mc) g18 0 1 1 (by kernel_rfl) rfl rfl (by omega) hx0' e18 (muV_ok [(lo, hi, withinL all lo hi)]) rfl (by omega) (by simp; omega) (by simp; omega) ?_
          intro v19 m19 hx19
          obtain ⟨a19, c19, rfl⟩ := hx19.shape
          have hbag4 := hput' (muArr (.slice a19 (out.map muV ++ [muV (lo, hi, withinL all lo hi)]).length c19) (out.map muV ++ [muV (lo, hi, withinL all lo hi)])) m19 hx19
          have el1 : (out.map ivV ++ [ivV (lo, hi, withinL all lo hi)]).length = (out ++ [(lo, hi, withinL all lo hi)]).length := by simp
          have el2 : (out.map muV ++ [muV (lo, hi, withinL all lo hi)]).length = (out ++ [(lo, hi, withinL all lo hi)]).length := by simp
          have em1 : out.map ivV ++ [ivV (lo, hi, withinL all lo hi)] = (out ++ [(lo, hi, withinL all lo hi)]).map ivV := by simp
          have em2 : out.map muV ++ [muV (lo, hi, withinL all lo hi)] = (out ++ [(lo, hi, withinL all lo hi)]).map muV := by simp
          have hbag5 : Bag m19 [stArr (.slice (some ⟨gs, 0, none⟩) st.length sc) (st.map Pc.val).reverse, ivArr (.slice a16 (out ++ [(lo, hi, withinL all lo hi)]).length c16) ((out ++ [(lo, hi, withinL all lo hi)]).map ivV), muArr (.slice a19 (out ++ [(lo, hi, withinL all lo hi)]).length c19) ((out ++ [(lo, hi, withinL all lo hi)]).map muV)] := by
            rw [el2, em2, el1, em1] at hbag4; exact hbag4
          rw [el1, el2]
          exact G.back (by kernel_rfl) (hJ ⟨f, st, out ++ [(lo, hi, withinL all lo hi)], some ⟨gs, 0, none⟩, st.length, sc, a16, c16, a19, c19⟩ _ _ _ ⟨by kernel_rfl, by kernel_rfl, by kernel_rfl⟩ ((((((l8.trans l10).trans l11).trans l12).trans l15).trans l17).trans l18) ⟨hg, by dsimp only; omega, rfl, by dsimp only; omega, by dsimp only; simp; omega, fun p hp => (hpk' p hp).mono (((((l10.trans l11).trans l12).trans l15).trans l17).trans l18), hbag5⟩ (by dsimp only; omega))
        · rw [if_neg hn1] at hg
          by_cases hk60 : 60 ≤ k
          · rw [if_pos hk60] at hg
            have hr : res = none := (Option.some.inj hg).symm
            subst hr
            refine G.eqlF (withinL sim lo hi) 1 (by kernel_rfl) (fun e => hn1 ⟨e, by omega⟩) ?_
            refine G.eqlT (k : Int) 60 (by kernel_rfl) (by omega) ?_
            refine G.drop PH.mt (by kernel_rfl) (PH.mt_le _) ?_
            exact G.ret (.tuple #[.agg #[.slice none 0 0, .slice none 0 0], .int .i64 3]) (by kernel_rfl) ⟨rfl, rfl⟩
          rw [if_neg hk60] at hg
          by_cases h1 : withinL sim lo hi = 1
          · refine G.eqlT (withinL sim lo hi) 1 (by kernel_rfl) h1 ?_
            refine G.geqF (k : Int) (h : Int) (by kernel_rfl) (by intro hc; exact hn1 ⟨h1, by omega⟩) ?_
            refine G.eqlF (k : Int) 60 (by kernel_rfl) (by omega) ?_
            refine G.call0 _ _ (by kernel_rfl) Tryz.call59 (fracAdd0 (hplo.mono l10) (hphi.mono l10) (slo.mono (by omega)) (shi.mono (by omega))) ?_
            intro v11 u11 l11 k11
            obtain ⟨f11, rfl⟩ := k11.opF
            refine G.call0 _ _ (by kernel_rfl) Tryz.call60 (fracOf0 (z := 2) (by omega) (by omega)) ?_
            intro v12 u12 l12 k12
            rw [two] at k12
            obtain ⟨f12, rfl⟩ := k12.opF
            refine G.call0 _ _ (by kernel_rfl) Tryz.call63 (fracDiv0 (k11.mono l12) k12 ((sz_add2 slo shi).mono (by omega)) (s2.mono (by omega)) two0) ?_
            intro v13 u13 l13 k13
            obtain ⟨f13, rfl⟩ := k13.opF
            refine G.add (k : Int) 1 ((k + 1 : Nat) : Int) (by kernel_rfl) (by omega) (by omega) (by omega) ?_
            refine G.add (k : Int) 1 ((k + 1 : Nat) : Int) (by kernel_rfl) (by omega) (by omega) (by omega) ?_
            refine G.buildU 105 9 136 zP [pc9 f13 py (k + 1), pc9 px f13 (k + 1)] (by kernel_rfl) (ElsOK.append (a := [pc9 f13 py (k + 1)]) (b := [pc9 px f13 (k + 1)]) (pc9_ok _ _ _) (pc9_ok _ _ _)) rfl (by omega) (by simp) (by simp) ?_
            intro g14 u14 l14 e14
            obtain ⟨m0, hx0, hput⟩ := hbag2.focus 0 rfl
            refine G.append 105 9 136 zP m0 (st.map Pc.val).reverse [pc9 f13 py (k + 1), pc9 px f13 (k + 1)] (.slice (some ⟨gs, 0, none⟩) st.length sc) g14 0 2 2 (by kernel_rfl) rfl rfl (by omega) hx0 e14 (ElsOK.append (a := [pc9 f13 py (k + 1)]) (b := [pc9 px f13 (k + 1)]) (pc9_ok _ _ _) (pc9_ok _ _ _)) rfl (by omega) (by simp; omega) (by simp; omega) ?_
            intro v15 m15 hx15
            obtain ⟨a15, c15, rfl⟩ := hx15.shape
            have el : ((st.map Pc.val).reverse ++ [pc9 f13 py (k + 1), pc9 px f13 (k + 1)]).length = st.length + 1 + 1 := by simp
            have hbag3 := hput (stArr (.slice a15 ((st.map Pc.val).reverse ++ [pc9 f13 py (k + 1), pc9 px f13 (k + 1)]).length c15) ((st.map Pc.val).reverse ++ [pc9 f13 py (k + 1), pc9 px f13 (k + 1)])) m15 hx15
            have er : (st.map Pc.val).reverse ++ [pc9 f13 py (k + 1), pc9 px f13 (k + 1)] = ((⟨px, f13, lo, (lo + hi) / 2, k + 1⟩ :: ⟨f13, py, (lo + hi) / 2, hi, k + 1⟩ :: st : List Pc).map Pc.val).reverse := by simp [Pc.val]
            rw [el, er] at hbag3
            rw [el]
            have hll : PH.le u8 u14 := (((l10.trans l11).trans l12).trans l13).trans l14
            refine G.back (by kernel_rfl) (hJ ⟨f, ⟨px, f13, lo, (lo + hi) / 2, k + 1⟩ :: ⟨f13, py, (lo + hi) / 2, hi, k + 1⟩ :: st, out, a15, st.length + 1 + 1, c15, ia, ic, ma, mc⟩ _ _ _ ⟨by kernel_rfl, by kernel_rfl, by kernel_rfl⟩ (l8.trans hll) ⟨hg, by dsimp only; omega, rfl, by dsimp only; simp; omega, by dsimp only; omega, ?_, hbag3⟩ (by dsimp only; omega))
            intro p hp
            rcases List.mem_cons.1 hp with rfl | hp
            · exact ⟨hplo.mono hll, k13.mono l14, by dsimp only; omega⟩
            rcases List.mem_cons.1 hp with rfl | hp
            · exact ⟨k13.mono l14, hphi.mono hll, by dsimp only; omega⟩
            exact (hpk' p hp).mono hll
          · refine G.eqlF (withinL sim lo hi) 1 (by kernel_rfl) h1 ?_
            refine G.eqlF (k : Int) 60 (by kernel_rfl) (by omega) ?_
            refine G.call0 _ _ (by kernel_rfl) Tryz.call59 (fracAdd0 (hplo.mono l10) (hphi.mono l10) (slo.mono (by omega)) (shi.mono (by omega))) ?_
            intro v11 u11 l11 k11
            obtain ⟨f11, rfl⟩ := k11.opF
            refine G.call0 _ _ (by kernel_rfl) Tryz.call60 (fracOf0 (z := 2) (by omega) (by omega)) ?_
            intro v12 u12 l12 k12
            rw [two] at k12
            obtain ⟨f12, rfl⟩ := k12.opF
            refine G.call0 _ _ (by kernel_rfl) Tryz.call63 (fracDiv0 (k11.mono l12) k12 ((sz_add2 slo shi).mono (by omega)) (s2.mono (by omega)) two0) ?_
            intro v13 u13 l13 k13
            obtain ⟨f13, rfl⟩ := k13.opF
            refine G.add (k : Int) 1 ((k + 1 : Nat) : Int) (by kernel_rfl) (by omega) (by omega) (by omega) ?_
            refine G.add (k : Int) 1 ((k + 1 : Nat) : Int) (by kernel_rfl) (by omega) (by omega) (by omega) ?_
            refine G.buildU 105 9 136 zP [pc9 f13 py (k + 1), pc9 px f13 (k + 1)] (by kernel_rfl) (ElsOK.append (a := [pc9 f13 py (k + 1)]) (b := [pc9 px f13 (k + 1)]) (pc9_ok _ _ _) (pc9_ok _ _ _)) rfl (by omega) (by simp) (by simp) ?_
            intro g14 u14 l14 e14
            obtain ⟨m0, hx0, hput⟩ := hbag2.focus 0 rfl
            refine G.append 105 9 136 zP m0 (st.map Pc.val).reverse [pc9 f13 py (k + 1), pc9 px f13 (k + 1)] (.slice (some ⟨gs, 0, none⟩) st.length sc) g14 0 2 2 (by kernel_rfl) rfl rfl (by omega) hx0 e14 (ElsOK.append (a := [pc9 f13 py (k + 1)]) (b := [pc9 px f13 (k + 1)]) (pc9_ok _ _ _) (pc9_ok _ _ _)) rfl (by omega) (by simp; omega) (by simp; omega) ?_
            intro v15 m15 hx15
            obtain ⟨a15, c15, rfl⟩ := hx15.shape
            have el : ((st.map Pc.val).reverse ++ [pc9 f13 py (k + 1), pc9 px f13 (k + 1)]).length = st.length + 1 + 1 := by simp
            have hbag3 := hput (stArr (.slice a15 ((st.map Pc.val).reverse ++ [pc9 f13 py (k + 1), pc9 px f13 (k + 1)]).length c15) ((st.map Pc.val).reverse ++ [pc9 f13 py (k + 1), pc9 px f13 (k + 1)])) m15 hx15
            have er : (st.map Pc.val).reverse ++ [pc9 f13 py (k + 1), pc9 px f13 (k + 1)] = ((⟨px, f13, lo, (lo + hi) / 2, k + 1⟩ :: ⟨f13, py, (lo + hi) / 2, hi, k + 1⟩ :: st : List Pc).map Pc.val).reverse := by simp [Pc.val]
            rw [el, er] at hbag3
            rw [el]
            have hll : PH.le u8 u14 := (((l10.trans l11).trans l12).trans l13).trans l14
            refine G.back (by kernel_rfl) (hJ ⟨f, ⟨px, f13, lo, (lo + hi) / 2, k + 1⟩ :: ⟨f13, py, (lo + hi) / 2, hi, k + 1⟩ :: st, out, a15, st.length + 1 + 1, c15, ia, ic, ma, mc⟩ _ _ _ ⟨by kernel_rfl, by kernel_rfl, by kernel_rfl⟩ (l8.trans hll) ⟨hg, by dsimp only; omega, rfl, by dsimp only; simp; omega, by dsimp only; omega, ?_, hbag3⟩ (by dsimp only; omega))
            intro p hp
            rcases List.mem_cons.1 hp with rfl | hp
            · exact ⟨hplo.mono hll, k13.mono l14, by dsimp only; omega⟩
            rcases List.mem_cons.1 hp with rfl | hp
            · exact ⟨k13.mono l14, hphi.mono hll, by dsimp only; omega⟩
            exact (hpk' p hp).mono hll
theorem spectrum1 {u : PH} {v : Value} {A : List (List Rat)} {T fS F fu h : Nat} {res : Option (List (Rat × Rat × Int))} (ht : TabU u) (hm : MatP u v (matT A)) (hA : Nice A T) (htx : ∀ q ∈ charL A, Tx q) (hST : cb T A.length + 13 ≤ 500000) (hh : h ≤ 60) (hS : SimP fS (charL A))
    (hs1 : simpL fS (charL A) ≠ []) (hs2 : (simpL fS (charL A)).length ≤ 5) (hs3 : gR (simpL fS (charL A)) ((simpL fS (charL A)).length - 1) ≠ 0) (hs4 : SzL (simpL fS (charL A)) 400000)
    (hb : bndB F A A.length 0 1 = true) (hb2 : smallB (bndL F A) = true) (hfu : fu ≤ 100000) (hgo : specR (charL A) (simpL fS (charL A)) h fu [(-(bndL F A + 1), bndL F A + 1, 0)] [] = some res) :
    Fn0 Tryz.prog 24 [v, .int .i64 (h : Int)] u fun v' u' => SpecRes u' v' res :=
  spectrumG ht hm hA htx id hST hh hS hs1 hs2 hs3 hs4 hb hb2 hfu hgo
theorem spectrum0 {u : PH} {v : Value} {A : List (List Rat)} {T fS F fu h : Nat} {res : List (Rat × Rat × Int)} (ht : TabU u) (hm : MatP u v (matT A)) (hA : Nice A T) (htx : ∀ q ∈ charL A, Tx q) (hST : cb T A.length + 13 ≤ 500000) (hh : h ≤ 60) (hS : SimP fS (charL A))
    (hs1 : simpL fS (charL A) ≠ []) (hs2 : (simpL fS (charL A)).length ≤ 5) (hs3 : gR (simpL fS (charL A)) ((simpL fS (charL A)).length - 1) ≠ 0) (hs4 : SzL (simpL fS (charL A)) 400000)
    (hb : bndB F A A.length 0 1 = true) (hb2 : smallB (bndL F A) = true) (hfu : fu ≤ 100000) (hgo : specGo (charL A) (simpL fS (charL A)) h fu [(-(bndL F A + 1), bndL F A + 1, 0)] [] = some res) :
    Fn0 Tryz.prog 24 [v, .int .i64 (h : Int)] u fun v' u' => ∃ r, v' = .tuple #[r, .int .i64 0] ∧ SpecP u' r res :=
  spectrum1 ht hm hA htx hST hh hS hs1 hs2 hs3 hs4 hb hb2 hfu (specR_of _ _ _ hgo)
end Go.Proofs.YtldokelpolbnnaaGreatDoor
end
section
set_option linter.unusedSectionVars false
set_option linter.unusedVariables false
namespace Go.Proofs.YtldokelpolbnnaaGreatDoor
open Go.RowKit
section rules
variable {P : Program} [Mixed P] {fn : Func} {Post : Spec} {st : List KI × S} {u m : PH}
theorem view_fieldA {env : Operand → Value} {o : Op} {t : TypeId} {x : Value} {f : Nat} (h : viewOp P env o = .fieldA t x f) : ∃ X, o = .fieldAddr t X f ∧ env X = x := by
  cases o <;> simp only [viewOp] at h <;> try cases h
  any_goals ((repeat' split at h) <;> cases h; done)
  · exact ⟨_, rfl, rfl⟩
theorem G.fieldA (t : TypeId) (b off f fo : Nat) (h : stopV P (adv P st) = .fieldA t (.pointer (some ⟨b, off, none⟩)) f) (hf : fieldOff P t f = some fo) (k : G P fn Post (nx (adv P st) (.pointer (some ⟨b, off + fo, none⟩))) u m) : G P fn Post st u m := by
  refine G.ask h (by simp) (fun env o hview w _ => ?_) k
  obtain ⟨X, e, e1⟩ := view_fieldA hview
  obtain ⟨dst, opp, type, pos, after, guard⟩ := o
  simp only at e; subst e
  unfold fieldOff at hf
  split at hf
  · rename_i fs hfs
    split at hf
    · rename_i fd hfd
      split at hf
      · rename_i n hn
        simp only [Option.some.injEq] at hf
        subst hf
        simp [execOp, Instr.fieldAt, run_underlying hfs, hfd, Instr.sureAddr, e1, fieldPlace, run_sizeOf' hn, addr_add]
      · cases hf
    · cases hf
  · cases hf
theorem G.remZ (x y z : Int) (h : stopV P (adv P st) = .bin .rem (.int .i64 x) (.int .i64 y)) (hy : 0 < y) (hy2 : y ≤ 9223372036854775807) (hz : x.tmod y = z)
    (k : G P fn Post (nx (adv P st) (.int .i64 z)) u m) : G P fn Post st u m := by
  refine G.bin _ h guard_int (fun t w => ?_) k
  have h4 : ¬ y = 0 := by omega
  have h5 : -y < z ∧ z < y := by
    rw [← hz]
    have a1 := Int.tmod_lt_of_pos x hy
    have a2 := Int.lt_tmod_of_pos x hy
    exact ⟨a2, a1⟩
  simp [binOp, Op.intDiv, h4, hz]
end rules
end Go.Proofs.YtldokelpolbnnaaGreatDoor
end
section
set_option linter.unusedSectionVars false
set_option linter.unusedVariables false
namespace Go.Proofs.YtldokelpolbnnaaGreatDoor
open Go.RowKit
theorem ElP.part {u : PH} {b off : Nat} {x : Rat × Rat × Int} (h : ElP u b off (ivV x)) : ElP u b (off + 1) (.string (mkS (ratT x.2.1))) := by
  intro i y hy
  match i, hy with
  | 0, hy =>
    simp [Value.cells] at hy; subst hy
    exact h 1 _ rfl
set_option maxHeartbeats 4000000 in
theorem checkG {u : PH} {v r : Value} {A : List (List Rat)} {T S : Nat} {res : List (Rat × Rat × Int)} (ht : TabU u) (hm : MatP u v (matT A)) (hA : Nice A T) (htx : ∀ q ∈ charL A, Tx q) (hSS : SzL (charL A) (cb T A.length) → SzL (charL A) S) (hST : S + 13 ≤ 500000)
    (hX : ∀ x ∈ res, NiceX x.1 A.length 12 ∧ NiceX x.2.1 A.length 12) (hr : SpecP u r res) (hl : res.length ≤ 100000) (hc : chkGo (charL A) none res 0 = some (A.length : Int)) :
    Fn0 Tryz.prog 25 [v, r] u fun v' _ => v' = .bool true := by
  have hpo := fun (u' : PH) (v : Value) (ht' : TabU u') (hv : MatP u' v (matT A)) => polynomial0 ht' hv hA htx
  have hup := fun (u' : PH) (v : Value) (x : Rat) (ht' : TabU u') (hv : MatP u' v (matT A)) (hx : NiceX x A.length 12) => upToG ht' hv hA hx hSS (by omega)
  have hle := hA.le
  have hcl := charL_length A
  obtain ⟨a, c, rfl⟩ := hm.opn
  rw [matT_length] at hm ⊢
  obtain ⟨ai, ci, am, cm, rfl, hI, hM⟩ := hr
  refine Fn0.of Tryz.func25 (by kernel_rfl) (by kernel_rfl) ?_
  refine G.call0 _ _ (by kernel_rfl) Tryz.call16 (hpo _ _ ht hm) ?_
  rintro v1 u1 l1 ⟨r1, rfl, k1⟩
  obtain ⟨a1, c1, rfl⟩ := ListP.opn k1
  refine G.neqF 0 0 (by kernel_rfl) (by omega) ?_
  refine G.neqF (res.length : Int) (res.length : Int) (by kernel_rfl) (by omega) ?_
  refine G.loop (ι := Nat × Int × Option Rat) (fun i => [(0, .v (.slice a A.length c)), (3, .p 0 0), (7, .v (.int .i64 i.2.1)), (31, .v (.slice ai res.length ci)), (32, .v (.int .i64 (res.length : Int))), (33, .v (.int .i64 (i.1 : Int)))])
    (fun _ => [(0, ⟨54, [.v (.slice ai res.length ci), .v (.slice am res.length cm)]⟩)])
    (fun i u' m' => i.1 ≤ res.length ∧ -(1000 * i.1 : Int) ≤ i.2.1 ∧ i.2.1 ≤ 1000 * i.1 ∧ (∀ j x, i.1 = j + 1 → res[j]? = some x → i.2.2 = some x.2.1) ∧ chkGo (charL A) i.2.2 (res.drop i.1) i.2.1 = some (A.length : Int) ∧ m' = PH.mt)
    (fun i => res.length - i.1) (0, 0, none) (by kernel_rfl) (fun _ => by kernel_rfl) ⟨by kernel_rfl, by kernel_rfl, by kernel_rfl⟩ ⟨Nat.zero_le _, by simp, by simp, fun j x h => by simp at h, hc, rfl⟩ ?_
  rintro J ⟨i, s, pr⟩ hJ u2 m2 l2 ⟨hi, hs1, hs2, hpr, hgo, rfl⟩
  simp only at hi hs1 hs2 hpr hgo hJ
  by_cases hlt : i < res.length
  · refine G.lssT (i : Int) (res.length : Int) (by kernel_rfl) (by omega) ?_
    have hti : res[i]? = some res[i] := List.getElem?_eq_getElem hlt
    obtain ⟨hx1, hx2⟩ := hX _ (List.getElem_mem hlt)
    rw [List.drop_eq_getElem_cons hlt] at hgo
    obtain ⟨x, hxe⟩ : ∃ x, res[i] = x := ⟨_, rfl⟩
    rw [hxe] at hti hx1 hx2 hgo
    rw [chkGo] at hgo
    split at hgo
    · rename_i hcond
      simp only [Bool.and_eq_true, decide_eq_true_eq] at hcond
      obtain ⟨⟨⟨⟨⟨c1', c2'⟩, c3'⟩, c4'⟩, c5'⟩, c6'⟩ := hcond
      have hl2 : PH.le u u2 := l1.trans l2
      obtain ⟨b3, o3, rfl, e3⟩ := ListP.at' (hI.mono hl2) (j := i) (e := ivV x) (by simp [hti])
      refine G.addr b3 o3 res.length ci i 2 (by kernel_rfl) hlt ?_
      refine G.loadU (some 2) b3 (o3 + i * 2) (ivV x) (by kernel_rfl) (by kernel_rfl) e3 ?_
      refine G.call0 _ _ (by kernel_rfl) Tryz.call43 (ratValid0 hx1.tx) ?_
      rintro v4 u4 l4 rfl
      refine G.call0 _ _ (by kernel_rfl) Tryz.call43 (ratValid0 hx2.tx) ?_
      rintro v5 u5 l5 rfl
      refine G.call0 _ _ (by kernel_rfl) Tryz.call64 (ratCompare0 hx1.tx hx2.tx) ?_
      rintro v6 u6 l6 rfl
      have hneg : sgn (x.1 - x.2.1).num < 0 := by rw [sgn_num]; exact sg_lt.2 c3'
      refine G.geqF (sgn (x.1 - x.2.1).num) 0 (by kernel_rfl) (by omega) ?_
      have b1 := less_abs (charL A) x.1 (by omega)
      have b2 := less_abs (charL A) x.2.1 (by omega)
      have b3' := equal_abs (charL A) x.1 (by omega)
      have b4 := equal_abs (charL A) x.2.1 (by omega)
      obtain ⟨b7, o7, eq7, e7⟩ := ListP.at' (hM.mono hl2) (j := i) (e := muV x) (by simp [hti])
      subst eq7
      rcases Nat.eq_zero_or_pos i with hi0 | hi0
      · subst hi0
        refine G.gtrF ((0 : Nat) : Int) 0 (by kernel_rfl) (by omega) ?_
        refine G.call0 _ _ (by kernel_rfl) Tryz.call65 (hup _ _ x.1 (ht.mono (((hl2.trans l4).trans l5).trans l6)) (hm.mono (((hl2.trans l4).trans l5).trans l6)) hx1) ?_
        rintro v8 u8 l8 rfl
        refine G.call0 _ _ (by kernel_rfl) Tryz.call65 (hup _ _ x.2.1 (ht.mono ((((hl2.trans l4).trans l5).trans l6).trans l8)) (hm.mono ((((hl2.trans l4).trans l5).trans l6).trans l8)) hx2) ?_
        rintro v9 u9 l9 rfl
        have hle9 : PH.le u2 u9 := ((((l4.trans l5).trans l6).trans l8).trans l9)
        refine G.sub (lessL (charL A) x.2.1 + (equalL (charL A) x.2.1 : Int)) (lessL (charL A) x.1 + (equalL (charL A) x.1 : Int)) x.2.2 (by kernel_rfl) c5' (by omega) (by omega) ?_
        refine G.addr b7 o7 res.length cm 0 1 (by kernel_rfl) hlt ?_
        refine G.loadU none b7 (o7 + 0 * 1) (muV x) (by kernel_rfl) (by kernel_rfl) (e7.mono hle9) ?_
        refine G.neqF x.2.2 x.2.2 (by kernel_rfl) (by simp) ?_
        refine G.addr b7 o7 res.length cm 0 1 (by kernel_rfl) hlt ?_
        refine G.loadU none b7 (o7 + 0 * 1) (muV x) (by kernel_rfl) (by kernel_rfl) (e7.mono hle9) ?_
        refine G.lssF x.2.2 1 (by kernel_rfl) (by omega) ?_
        refine G.addr b7 o7 res.length cm 0 1 (by kernel_rfl) hlt ?_
        refine G.loadU none b7 (o7 + 0 * 1) (muV x) (by kernel_rfl) (by kernel_rfl) (e7.mono hle9) ?_
        refine G.add s x.2.2 (s + x.2.2) (by kernel_rfl) rfl (by omega) (by omega) ?_
        refine G.add ((0 : Nat) : Int) 1 ((0 + 1 : Nat) : Int) (by kernel_rfl) (by omega) (by omega) (by omega) ?_
        refine G.back (by kernel_rfl) (hJ (0 + 1, s + x.2.2, some x.2.1) _ _ _ ⟨by kernel_rfl, by kernel_rfl, by kernel_rfl⟩ (l2.trans hle9) ⟨by dsimp only; omega, by dsimp only; omega, by dsimp only; omega, ?_, hgo, rfl⟩ (by dsimp only; omega))
        intro j' y' hj' hy'
        dsimp only at hj' ⊢
        obtain rfl : j' = 0 := by omega
        rw [hti] at hy'
        rw [Option.some.inj hy']
      · obtain ⟨j, rfl⟩ : ∃ j, i = j + 1 := ⟨i - 1, by omega⟩
        have hjl : j < res.length := by omega
        have htj : res[j]? = some res[j] := List.getElem?_eq_getElem hjl
        have hpe := hpr j _ rfl htj
        obtain ⟨hy1, hy2⟩ := hX _ (List.getElem_mem hjl)
        obtain ⟨y, hye⟩ : ∃ y, res[j] = y := ⟨_, rfl⟩
        rw [hye] at htj hpe hy1 hy2
        subst hpe
        simp only [okPrev, decide_eq_true_eq] at c4'
        obtain ⟨b10, o10, eq10, e10⟩ := ListP.at' (hI.mono hl2) (j := j) (e := ivV y) (by simp [htj])
        cases eq10
        refine G.gtrT ((j + 1 : Nat) : Int) 0 (by kernel_rfl) (by omega) ?_
        refine G.sub ((j + 1 : Nat) : Int) 1 (j : Int) (by kernel_rfl) (by omega) (by omega) (by omega) ?_
        refine G.addr b3 o3 res.length ci j 2 (by kernel_rfl) hjl ?_
        refine G.fieldA 59 b3 (o3 + j * 2) 1 1 (by kernel_rfl) (by kernel_rfl) ?_
        refine G.loadU none b3 (o3 + j * 2 + 1) (.string (mkS (ratT y.2.1))) (by kernel_rfl) (by kernel_rfl) (e10.part.mono ((l4.trans l5).trans l6)) ?_
        refine G.call0 _ _ (by kernel_rfl) Tryz.call64 (ratCompare0 hx1.tx hy2.tx) ?_
        rintro v11 u11 l11 rfl
        have hnn : ¬ (sgn (x.1 - y.2.1).num < 0) := by rw [sgn_num]; intro h'; have := sg_lt.1 h'; grind
        refine G.lssF (sgn (x.1 - y.2.1).num) 0 (by kernel_rfl) hnn ?_
        refine G.call0 _ _ (by kernel_rfl) Tryz.call65 (hup _ _ x.1 (ht.mono ((((hl2.trans l4).trans l5).trans l6).trans l11)) (hm.mono ((((hl2.trans l4).trans l5).trans l6).trans l11)) hx1) ?_
        rintro v8 u8 l8 rfl
        refine G.call0 _ _ (by kernel_rfl) Tryz.call65 (hup _ _ x.2.1 (ht.mono (((((hl2.trans l4).trans l5).trans l6).trans l11).trans l8)) (hm.mono (((((hl2.trans l4).trans l5).trans l6).trans l11).trans l8)) hx2) ?_
        rintro v9 u9 l9 rfl
        have hle9 : PH.le u2 u9 := (((((l4.trans l5).trans l6).trans l11).trans l8).trans l9)
        refine G.sub (lessL (charL A) x.2.1 + (equalL (charL A) x.2.1 : Int)) (lessL (charL A) x.1 + (equalL (charL A) x.1 : Int)) x.2.2 (by kernel_rfl) c5' (by omega) (by omega) ?_
        refine G.addr b7 o7 res.length cm (j + 1) 1 (by kernel_rfl) hlt ?_
        refine G.loadU none b7 (o7 + (j + 1) * 1) (muV x) (by kernel_rfl) (by kernel_rfl) (e7.mono hle9) ?_
        refine G.neqF x.2.2 x.2.2 (by kernel_rfl) (by simp) ?_
        refine G.addr b7 o7 res.length cm (j + 1) 1 (by kernel_rfl) hlt ?_
        refine G.loadU none b7 (o7 + (j + 1) * 1) (muV x) (by kernel_rfl) (by kernel_rfl) (e7.mono hle9) ?_
        refine G.lssF x.2.2 1 (by kernel_rfl) (by omega) ?_
        refine G.addr b7 o7 res.length cm (j + 1) 1 (by kernel_rfl) hlt ?_
        refine G.loadU none b7 (o7 + (j + 1) * 1) (muV x) (by kernel_rfl) (by kernel_rfl) (e7.mono hle9) ?_
        refine G.add s x.2.2 (s + x.2.2) (by kernel_rfl) rfl (by omega) (by omega) ?_
        refine G.add (((j + 1) : Nat) : Int) 1 (((j + 1) + 1 : Nat) : Int) (by kernel_rfl) (by omega) (by omega) (by omega) ?_
        refine G.back (by kernel_rfl) (hJ ((j + 1) + 1, s + x.2.2, some x.2.1) _ _ _ ⟨by kernel_rfl, by kernel_rfl, by kernel_rfl⟩ (l2.trans hle9) ⟨by dsimp only; omega, by dsimp only; omega, by dsimp only; omega, ?_, hgo, rfl⟩ (by dsimp only; omega))
        intro j' y' hj' hy'
        dsimp only at hj' ⊢
        obtain rfl : j' = (j + 1) := by omega
        rw [hti] at hy'
        rw [Option.some.inj hy']
    · cases hgo
  · obtain rfl : i = res.length := by omega
    refine G.lssF (res.length : Int) (res.length : Int) (by kernel_rfl) (by omega) ?_
    rw [List.drop_of_length_le (Nat.le_refl _), chkGo, Option.some.injEq] at hgo
    subst hgo
    refine G.eqlT (A.length : Int) (A.length : Int) (by kernel_rfl) rfl ?_
    exact G.ret (.bool true) (by kernel_rfl) ⟨rfl, rfl⟩
theorem check0 {u : PH} {v r : Value} {A : List (List Rat)} {T : Nat} {res : List (Rat × Rat × Int)} (ht : TabU u) (hm : MatP u v (matT A)) (hA : Nice A T) (htx : ∀ q ∈ charL A, Tx q) (hST : cb T A.length + 13 ≤ 500000)
    (hX : ∀ x ∈ res, NiceX x.1 A.length 12 ∧ NiceX x.2.1 A.length 12) (hr : SpecP u r res) (hl : res.length ≤ 100000) (hc : chkGo (charL A) none res 0 = some (A.length : Int)) :
    Fn0 Tryz.prog 25 [v, r] u fun v' _ => v' = .bool true :=
  checkG ht hm hA htx id hST hX hr hl hc
end Go.Proofs.YtldokelpolbnnaaGreatDoor
end
section
set_option linter.unusedSectionVars false
set_option linter.unusedVariables false
namespace Go.Proofs.YtldokelpolbnnaaGreatDoor
open Go.RowKit
theorem or_mt (m : PH) : m.or PH.mt = m := by
  funext g; unfold PH.or; split
  · rename_i o e; rw [e]
  · rename_i e; rw [e]; rfl
theorem or_upd (m0 m : PH) {g : Nat} (o : Obj) (h : m0 g = none) : m0.or (m.upd g o) = (m0.or m).upd g o := by
  funext k
  by_cases e : k = g
  · subst e; rw [PH.or_r h, upd_same, upd_same]
  · rw [upd_ne _ _ e]
    unfold PH.or; split
    · rfl
    · rw [upd_ne _ _ e]
theorem ArrAt.list {m0 m u : PH} {v : Value} {t : TypeId} {sz : Nat} {es : List Value} (h : ArrAt m0 m v t sz es) (hl : PH.le m u) : ListP u v sz es := by
  obtain ⟨ho, h⟩ := h
  rcases h with ⟨rfl, rfl, _⟩ | ⟨g, cap, rest, _, rfl, rfl, hcap, hlen, _⟩
  · exact ListP.nil _ _ _ _
  · refine ⟨_, _, rfl, hcap, fun j e hj => ⟨g, 0, rfl, fun i x hx => ⟨_, _, _, hl _ _ (upd_same _ _ _), ?_⟩⟩⟩
    rw [List.getElem?_toArray, Nat.zero_add]
    have := flat_get ho hj hx
    rw [List.getElem?_append_left (by obtain ⟨h, _⟩ := List.getElem?_eq_some_iff.1 this; exact h)]; exact this
theorem Bag.list {l : List Arr} {m u : PH} (h : Bag m l) (hl : PH.le m u) (i : Nat) {x : Arr} (hi : l[i]? = some x) : ListP u x.v x.sz x.es := by
  obtain ⟨m0, hx, _⟩ := h.focus i hi
  exact ArrAt.list hx hl
section rules
variable {P : Program} [Mixed P] {fn : Func} {Post : Spec} {st : List KI × S} {u m : PH}
theorem G.callA (f : Nat) (args : List Value) {mf mc : PH} {R : Value → PH → PH → Prop} (h : stopV P (adv P st) = .call f args) (hdr : noDr (adv P st) = true) (hc : ∀ args w, (callFunc f args).run P w = .ok (.enter f args) w) (hm : m = mf.or mc) (hd : Apart mf mc) (c : Contract P f args u mc R)
    (k : ∀ v u' mc', PH.le u u' → R v u' mc' → Apart mf mc' → G P fn Post (nx (adv P st) v) u' (mf.or mc')) : G P fn Post st u m := by
  subst hm
  refine G.bigN (K := fun v u' m' => ∃ mc', m' = mf.or mc' ∧ R v u' mc' ∧ Apart mf mc') h (by simp) hdr view_call_free (fun env o hview w hgd => ?_) (fun v u' m' h1 h2 => ?_)
  · have hgc : Good u mc w := hgd.less (fun g o hg => by
      cases hx : mf g with
      | some o' => have := (hd g).resolve_left (by rw [hx]; simp); rw [this] at hg; cases hg
      | none => rw [PH.or_r hx]; exact hg)
    refine does_call hview hc w _ (Calls.mono (c w hgc) fun e w' he => ?_)
    obtain ⟨v, u', mc', e1, e2, e3, e4⟩ := he
    obtain ⟨g1, g2⟩ := hgd.frameM hd e2 e3
    refine ⟨v, e1, u', mf.or mc', g1, g2, mc', rfl, e4, fun g => ?_⟩
    cases hx : mf g with
    | none => exact .inl rfl
    | some o =>
      right
      have hlt := lt_of_at (hgd.pm g o (PH.or_l hx))
      exact e3.ms g hlt ((hd g).resolve_left (by rw [hx]; simp))
  · obtain ⟨mc', rfl, hR, hA⟩ := h2
    exact k v u' mc' h1 hR hA
theorem G.giveP {ma sm : PH} (h : noReg (ctl P 100 st).1 = true) (hm : m = ma.or sm) (ha : Apart ma sm) (h0 : ∀ g, Post.m0 g = none ∨ sm g ≠ none) (k : ∀ u', PH.le u u' → PH.le ma u' → G P fn Post (ctl P 100 st) u' sm) : G P fn Post st u m := by
  subst hm
  refine ⟨ctl_sound 100 st ?_⟩
  rw [Sym.ofNo h]
  intro c ρ a w hm0 hr
  have hap : ∀ g o, ma g = some o → u g = none := fun g o hg => (hr.gd.ap g).resolve_right (by rw [PH.or_l hg]; simp)
  have hsm : ∀ g o, sm g = some o → ma g = none := fun g o hg => (ha g).resolve_right (by rw [hg]; simp)
  have hnew : ∀ g o, ma g = some o → c.w0.heap.size ≤ g := by
    intro g o hg
    rcases Nat.lt_or_ge g c.w0.heap.size with hlt | hge
    · have hpm : c.m0 g = none := by
        rw [hm0]
        rcases h0 g with e | e
        · exact e
        · cases hs : sm g with
          | none => exact absurd hs e
          | some o' => have := hsm g o' hs; rw [this] at hg; cases hg
      have := hr.gr.ms g hlt hpm
      rw [PH.or_l hg] at this; cases this
    · exact hge
  have hle : PH.le u (ma.or u) := fun g o hg => by
    cases hx : ma g with
    | none => rw [PH.or_r hx]; exact hg
    | some o' => have := hap g o' hx; rw [this] at hg; cases hg
  have hk := (k (ma.or u) hle (fun g o hg => PH.or_l hg)).out
  rw [Sym.ofNo h] at hk
  refine hk c ρ a w hm0 ⟨hr.sz, hr.tm, hr.df, fun kk b hb => ?_, hr.inj, hr.lv, ⟨fun g' o hg => ?_, fun g' o hg => ?_, fun g' => ?_, fun g' cs t' fr j z hg hj => ?_⟩, ⟨hr.gr.sz, hr.gr.old, fun g' hg => ?_, fun g' hg hm => ?_, hr.gr.io⟩⟩
  · obtain ⟨e1, e2, e3, e4⟩ := hr.box kk b hb
    have hma : ma (ρ kk) = none := by
      cases hx : ma (ρ kk) with
      | none => rfl
      | some o => rw [PH.or_l hx] at e4; cases e4
    rw [PH.or_r hma] at e4
    exact ⟨e1, e2, by rw [PH.or_r hma]; exact e3, e4⟩
  · cases hx : ma g' with
    | some o' => rw [PH.or_l hx] at hg; cases hg; exact hr.gd.pm g' _ (PH.or_l hx)
    | none => rw [PH.or_r hx] at hg; exact hr.gd.pu g' o hg
  · exact hr.gd.pm g' o (by rw [PH.or_r (hsm g' o hg)]; exact hg)
  · cases hx : ma g' with
    | some o' => right; exact (ha g').resolve_left (by rw [hx]; simp)
    | none =>
      rw [PH.or_r hx]
      have := hr.gd.ap g'
      rw [PH.or_r hx] at this; exact this
  · cases hx : ma g' with
    | some o' =>
      rw [PH.or_l hx, ← hg]
      exact (hr.gd.pm g' _ (PH.or_l hx)).symm
    | none => rw [PH.or_r hx]; exact hr.gd.cl g' cs t' fr j z hg hj
  · have hx : ma g' = none := by
      cases hx : ma g' with
      | none => rfl
      | some o => have := hnew g' o hx; omega
    rw [PH.or_r hx]; exact hr.gr.us g' hg
  · have := hr.gr.ms g' hg hm
    cases hx : ma g' with
    | some o => have := hnew g' o hx; omega
    | none => rw [PH.or_r hx] at this; exact this
end rules
structure Src where
  g : Nat
  a : Option Addr
  n : Nat
  c : Nat
def Src.ptr (s : Src) : Value := .pointer (some ⟨s.g, 0, none⟩)
def Src.el (s : Src) (k : Nat) : Value := .agg #[.slice s.a s.n s.c, .int .i64 (k : Int)]
def Src.M (s : Src) (k : Nat) : PH := PH.mt.upd s.g (.cells #[.slice s.a s.n s.c, .int .i64 (k : Int)] 70 (0, 0))
def Src.arr (s : Src) (k : Nat) : Arr := ⟨.slice (some ⟨s.g, 0, none⟩) 1 1, 70, 2, [s.el k]⟩
theorem Src.el_ok (s : Src) (k : Nat) : ElsOK 2 [s.el k] := by
  intro x hx
  simp at hx; subst hx
  exact ⟨rfl, fun y hy => by simp [Src.el, Value.cells] at hy; rcases hy with rfl | rfl <;> rfl⟩
theorem Src.at {s : Src} {k : Nat} {m0 : PH} (h : m0 s.g = none) : (s.arr k).At m0 (m0.or (s.M k)) := by
  refine ⟨s.el_ok k, .inr ⟨s.g, 1, [], h, ?_, rfl, Nat.le_refl _, rfl, by simp⟩⟩
  unfold Src.M
  rw [or_upd _ _ _ h, or_mt]; rfl
theorem Src.split {s : Src} {k : Nat} {m0 m : PH} (h : (s.arr k).At m0 m) : m = m0.or (s.M k) ∧ m0 s.g = none := by
  obtain ⟨_, h⟩ := h
  rcases h with ⟨h, _, _⟩ | ⟨g, cap, rest, h1, rfl, h2, h3, h4, h5⟩
  · simp [Src.arr] at h
  · simp only [Src.arr, Value.slice.injEq, Option.some.injEq, Addr.mk.injEq, and_true] at h2
    obtain ⟨rfl, _, rfl⟩ := h2
    have hr : rest = [] := by
      simp [Src.arr, flat, Src.el, Value.cells] at h4
      exact h4
    subst hr
    refine ⟨?_, h1⟩
    unfold Src.M
    rw [or_upd _ _ _ h1, or_mt]; rfl
theorem Src.apart {s : Src} {k : Nat} {m0 : PH} (h : m0 s.g = none) : Apart m0 (s.M k) := fun g => by
  by_cases e : g = s.g
  · subst e; exact .inl h
  · right; unfold Src.M; rw [upd_ne _ _ e]; rfl
structure SrcOK (u : PH) (s : Src) (ts : List Int) : Prop where
  list : ListP u (.slice s.a s.n s.c) 1 (intsZ ts)
  n : s.n = ts.length
  le : ts.length ≤ 600
  lo : ∀ t ∈ ts, -9223372036854775808 ≤ t
  hi : ∀ t ∈ ts, t ≤ 9223372036854775807
theorem SrcOK.mono {u u' : PH} {s : Src} {ts : List Int} (h : SrcOK u s ts) (hl : PH.le u u') : SrcOK u' s ts := ⟨h.list.mono hl, h.n, h.le, h.lo, h.hi⟩
theorem Src.cell0 (s : Src) (k : Nat) : ElP (s.M k) s.g (0 + 0) (.slice s.a s.n s.c) := fun i y hy => by
  match i, hy with
  | 0, hy => simp [Value.cells] at hy; subst hy; exact ⟨_, _, _, upd_same _ _ _, rfl⟩
theorem Src.cell1 (s : Src) (k : Nat) : ElP (s.M k) s.g (0 + 1) (.int .i64 (k : Int)) := fun i y hy => by
  match i, hy with
  | 0, hy => simp [Value.cells] at hy; subst hy; exact ⟨_, _, _, upd_same _ _ _, rfl⟩
end Go.Proofs.YtldokelpolbnnaaGreatDoor
end
section
set_option linter.unusedSectionVars false
set_option linter.unusedVariables false
namespace Go.Proofs.YtldokelpolbnnaaGreatDoor
open Go.RowKit
theorem mod0 {u : PH} {x : Int} {n : Nat} (h1 : -9223372036854775808 ≤ x) (h2 : x ≤ 9223372036854775807) (hn : 0 < n) (hn2 : n ≤ 1000000) :
    Fn0 Tryz.prog 36 [.int .i64 x, .int .i64 (n : Int)] u fun v _ => ∃ r : Nat, v = .int .i64 (r : Int) ∧ r < n := by
  refine Fn0.of Tryz.func36 (by kernel_rfl) (by kernel_rfl) ?_
  refine G.lssF (n : Int) 1 (by kernel_rfl) (by omega) ?_
  have a1 := Int.tmod_lt_of_pos x (show (0 : Int) < n by omega)
  have a2 := Int.lt_tmod_of_pos x (show (0 : Int) < n by omega)
  refine G.remZ x (n : Int) (x.tmod n) (by kernel_rfl) (by omega) (by omega) rfl ?_
  refine G.add (x.tmod n) (n : Int) (x.tmod n + n) (by kernel_rfl) rfl (by omega) (by omega) ?_
  obtain ⟨y, hy⟩ : ∃ y : Nat, x.tmod n + n = (y : Int) := ⟨(x.tmod n + n).toNat, by omega⟩
  refine G.remZ (x.tmod n + n) (n : Int) ((y % n : Nat) : Int) (by kernel_rfl) (by omega) (by omega) (by rw [hy, Int.tmod_eq_emod_of_nonneg (by omega)]; rfl) ?_
  exact G.ret _ (by kernel_rfl) ⟨rfl, y % n, rfl, Nat.mod_lt _ hn⟩
def Drawn (s : Src) (n : Nat) (v : Value) (m' : PH) : Prop := ∃ r k : Nat, v = .int .i64 (r : Int) ∧ r < n ∧ k ≤ s.n ∧ m' = s.M k
set_option maxHeartbeats 1000000 in
theorem srcN0 {u : PH} {s : Src} {ts : List Int} {k n : Nat} (h : SrcOK u s ts) (hk : k ≤ s.n) (hn : 0 < n) (hn2 : n ≤ 1000000) :
    Contract Tryz.prog 10 [s.ptr, .int .i64 (n : Int)] u (s.M k) fun v _ m' => Drawn s n v m' := by
  have hsn := h.n
  have hle := h.le
  refine Contract.of Tryz.func10 (by kernel_rfl) (by kernel_rfl) ?_
  refine G.fieldA 70 s.g 0 1 1 (by kernel_rfl) (by kernel_rfl) ?_
  refine G.loadM none s.g (0 + 1) (.int .i64 (k : Int)) (by kernel_rfl) (by kernel_rfl) (s.cell1 k) ?_
  refine G.fieldA 70 s.g 0 0 0 (by kernel_rfl) (by kernel_rfl) ?_
  refine G.loadM none s.g (0 + 0) (.slice s.a s.n s.c) (by kernel_rfl) (by kernel_rfl) (s.cell0 k) ?_
  by_cases hlt : k < s.n
  · refine G.geqF (k : Int) (s.n : Int) (by kernel_rfl) (by omega) ?_
    refine G.fieldA 70 s.g 0 1 1 (by kernel_rfl) (by kernel_rfl) ?_
    refine G.loadM none s.g (0 + 1) (.int .i64 (k : Int)) (by kernel_rfl) (by kernel_rfl) (s.cell1 k) ?_
    refine G.add (k : Int) 1 ((k + 1 : Nat) : Int) (by kernel_rfl) (by omega) (by omega) (by omega) ?_
    refine G.fieldA 70 s.g 0 1 1 (by kernel_rfl) (by kernel_rfl) ?_
    refine G.storeM 1 s.g (0 + 1) 70 [.slice s.a s.n s.c, .int .i64 (k : Int)] (.int .i64 ((k + 1 : Nat) : Int)) (by kernel_rfl) (upd_same _ _ _) (fun x hx => by simp at hx; rcases hx with rfl | rfl <;> rfl) (by simp) rfl rfl ?_
    have e : (s.M k).upd s.g (.cells (([Value.slice s.a s.n s.c, .int .i64 (k : Int)].take (0 + 1)) ++ (Value.int .i64 ((k + 1 : Nat) : Int)).cells.toList ++ ([Value.slice s.a s.n s.c, .int .i64 (k : Int)].drop (0 + 1 + 1))).toArray 70 (0, 0)) = s.M (k + 1) := by
      unfold Src.M; rw [upd_upd]; rfl
    rw [e]
    refine G.fieldA 70 s.g 0 0 0 (by kernel_rfl) (by kernel_rfl) ?_
    refine G.loadM none s.g (0 + 0) (.slice s.a s.n s.c) (by kernel_rfl) (by kernel_rfl) (s.cell0 (k + 1)) ?_
    refine G.fieldA 70 s.g 0 1 1 (by kernel_rfl) (by kernel_rfl) ?_
    refine G.loadM none s.g (0 + 1) (.int .i64 ((k + 1 : Nat) : Int)) (by kernel_rfl) (by kernel_rfl) (s.cell1 (k + 1)) ?_
    refine G.sub ((k + 1 : Nat) : Int) 1 (k : Int) (by kernel_rfl) (by omega) (by omega) (by omega) ?_
    have hkt : k < ts.length := by omega
    obtain ⟨b, off, ea, eb⟩ := ListP.at' h.list (j := k) (e := .int .i64 ts[k]) (by simp [intsZ, List.getElem?_eq_getElem hkt])
    obtain ⟨g, a, n', c⟩ := s
    simp only at ea hlt hk hsn
    subst ea
    refine G.addr b off n' c k 1 (by kernel_rfl) hlt ?_
    refine G.loadU none b (off + k * 1) (.int .i64 ts[k]) (by kernel_rfl) (by kernel_rfl) eb ?_
    refine G.call0 _ _ (by kernel_rfl) Tryz.call36 (mod0 (h.lo _ (List.getElem_mem hkt)) (h.hi _ (List.getElem_mem hkt)) hn hn2) ?_
    rintro v1 u1 l1 ⟨r, rfl, hr⟩
    exact G.ret _ (by kernel_rfl) ⟨r, k + 1, rfl, hr, by dsimp only; omega, rfl⟩
  · refine G.geqT (k : Int) (s.n : Int) (by kernel_rfl) (by omega) ?_
    exact G.ret (.int .i64 0) (by kernel_rfl) ⟨0, k, rfl, hn, hk, rfl⟩
theorem srcPick0 {u : PH} {s : Src} {ts : List Int} {k : Nat} {v : Value} {L : List Int} (h : SrcOK u s ts) (hk : k ≤ s.n) (hL : ListP u v 1 (intsZ L)) (hn0 : 0 < L.length) (hn2 : L.length ≤ 1000000) :
    Contract Tryz.prog 40 [s.ptr, v] u (s.M k) fun v _ m' => ∃ z ∈ L, ∃ k' : Nat, v = .int .i64 z ∧ k' ≤ s.n ∧ m' = s.M k' := by
  obtain ⟨a, c, rfl⟩ := hL.opn
  rw [intsZ_length] at hL ⊢
  refine Contract.of Tryz.func40 (by kernel_rfl) (by kernel_rfl) ?_
  refine G.callA _ _ (by kernel_rfl) (by kernel_rfl) Tryz.call10 (mt_or _).symm (apart_mt _) (srcN0 h hk hn0 hn2) ?_
  rintro v1 u1 m1 l1 ⟨r, k', rfl, hr, hk', rfl⟩ _
  rw [mt_or]
  obtain ⟨b, off, rfl, e⟩ := ListP.at' (hL.mono l1) (j := r) (e := .int .i64 L[r]) (by simp [intsZ, List.getElem?_eq_getElem hr])
  refine G.addr b off L.length c r 1 (by kernel_rfl) hr ?_
  refine G.loadU none b (off + r * 1) (.int .i64 L[r]) (by kernel_rfl) (by kernel_rfl) e ?_
  exact G.ret _ (by kernel_rfl) ⟨L[r], List.getElem_mem hr, k', rfl, hk', rfl⟩
structure SmR (q : Rat) : Prop where
  num : q.num.natAbs ≤ 9
  den : q.den ∣ 12
end Go.Proofs.YtldokelpolbnnaaGreatDoor
end
section
set_option linter.unusedSectionVars false
set_option linter.unusedVariables false
namespace Go.Proofs.YtldokelpolbnnaaGreatDoor
open Go.RowKit
section rules
variable {P : Program} [Mixed P] {fn : Func} {Post : Spec} {st : List KI × S} {u m : PH}
theorem G.appendM (e : TypeId) (sz bt : Nat) (z : Value) (m0 : PH) (es xs : List Value) (v : Value) (b off n c : Nat) (h : stopV P (adv P st) = .app (some (e, sz, bt, z)) true [v, .slice (some ⟨b, off, none⟩) n c]) (hz : z.cells.toList.all cellOK = true) (hzs : z.cells.size = sz) (hsz : 0 < sz)
    (ha : ArrAt m0 m v e sz es) (hx : ElsP m b off sz xs) (ho : ElsOK sz xs) (hn : xs.length = n) (hn0 : 0 < n) (hb : (es.length + n) * bt ≤ 140737488355328) (hb2 : es.length + n ≤ 9223372036854775807)
    (k : ∀ v' m', ArrAt m0 m' v' e sz (es ++ xs) → G P fn Post (nx (adv P st) v') u m') : G P fn Post st u m := by
  refine G.big (K := fun v' u' m' => u' = u ∧ ArrAt m0 m' v' e sz (es ++ xs)) h (by simp) (fun env op hv => (view_app (P := P) (o := ⟨none, op, 0, "", #[], none⟩) hv).2.1) (.inr fun env op hv => (view_app (P := P) (o := ⟨none, op, 0, "", #[], none⟩) hv).1) (fun env o hview w hgd => ?_) (fun v' u' m' _ hk => ?_)
  · obtain ⟨_, _, t, hi, hex⟩ := view_app (P := P) hview
    obtain ⟨v', w', m', h1, h2, h3, h4⟩ := append_world (P := P) m0 es xs v b off n c o.type hi hz hzs hsz ha ho hn hn0 hb hb2 hgd (hx.cells hsz ho hgd.pm)
    refine does_value (w' := w') (v := v') ?_ ⟨u, m', h2, h3, rfl, h4⟩
    rw [hex w, h1]; rfl
  · obtain ⟨rfl, hk⟩ := hk
    exact k v' m' hk
end rules
theorem Src.h0 (s : Src) (k k' : Nat) (g : Nat) : s.M k g = none ∨ s.M k' g ≠ none := by
  by_cases e : g = s.g
  · subst e; right; unfold Src.M; rw [upd_same]; simp
  · left; unfold Src.M; rw [upd_ne _ _ e]; rfl
def sRow (r : Value × List Value) : Arr := ⟨r.1, 34, 1, r.2⟩
def omA (v : Value) (rows : List (Value × List Value)) : Arr := ⟨v, 27, 1, rows.map (·.1)⟩
theorem sRow_at {r : Value × List Value} {m0 m : PH} : (sRow r).At m0 m = ArrAt m0 m r.1 34 1 r.2 := rfl
theorem omA_at {v : Value} {rows : List (Value × List Value)} {m0 m : PH} : (omA v rows).At m0 m = ArrAt m0 m v 27 1 (rows.map (·.1)) := rfl
theorem srcNew0 {u : PH} {v : Value} {ts : List Int} (h : ListP u v 1 (intsZ ts)) (hl : ts.length ≤ 600) (h1 : ∀ t ∈ ts, -9223372036854775808 ≤ t) (h2 : ∀ t ∈ ts, t ≤ 9223372036854775807) :
    Contract Tryz.prog 9 [v] u PH.mt fun v' u' m' => ∃ s : Src, v' = s.ptr ∧ m' = s.M 0 ∧ SrcOK u' s ts := by
  have hcap : ∃ a c, v = .slice a ts.length c ∧ ts.length ≤ c := by
    obtain ⟨a, c, e1, e2, _⟩ := h
    rw [intsZ_length] at e1 e2
    exact ⟨a, c, e1, e2⟩
  obtain ⟨a, c, rfl, hcap⟩ := hcap
  refine Contract.of Tryz.func9 (by kernel_rfl) (by kernel_rfl) ?_
  refine G.minI [3, 3] (ts.length : Int) 600 (ts.length : Int) (by kernel_rfl) (by omega) ?_
  refine G.sliceTo 1 a ts.length c ts.length (by kernel_rfl) hcap ?_
  refine G.pub 1006 70 [.slice a ts.length c, .int .i64 0] (by kernel_rfl) (by kernel_rfl) ?_
  intro g hu hm
  exact G.ret (.pointer (some ⟨g, 0, none⟩)) (by kernel_rfl) ⟨⟨g, a, ts.length, c⟩, rfl, rfl, h, rfl, hl, h1, h2⟩
theorem Src.bag0 (s : Src) (k : Nat) {l : List Arr} (h : Bag PH.mt l) : Bag (s.M k) (s.arr k :: l) := by
  have := Src.at (s := s) (k := k) (m0 := PH.mt) rfl
  rw [mt_or] at this
  exact ⟨PH.mt, this, h⟩
def SAt (rows : List (Value × List Value)) (M : List (List Rat)) : Prop := rows.length = M.length ∧ ∀ (i : Nat) (r : Value × List Value), rows[i]? = some r → r.2 = strsV ((gM M i).map ratT)
theorem perm_row {o l : Arr} {rows : List Arr} : (l :: o :: rows).Perm (o :: (rows ++ [l])) := by
  refine (List.Perm.swap _ _ _).trans (List.Perm.cons _ ?_)
  exact (List.perm_append_singleton l rows).symm
theorem gM_snoc {M : List (List Rat)} {q : List Rat} (i : Nat) : gM (M ++ [q]) i = if i < M.length then gM M i else if i = M.length then q else [] := by
  unfold gM
  rw [List.getD_eq_getElem?_getD]
  by_cases h1 : i < M.length
  · rw [if_pos h1, List.getElem?_append_left h1, List.getD_eq_getElem?_getD]
  · rw [if_neg h1, List.getElem?_append_right (by omega)]
    by_cases h2 : i = M.length
    · rw [if_pos h2, h2, Nat.sub_self]; rfl
    · rw [if_neg h2, List.getElem?_eq_none (by simp; omega)]; rfl
theorem SAt.snoc {rows : List (Value × List Value)} {M : List (List Rat)} {r : Value × List Value} {q : List Rat} (h : SAt rows M) (hr : r.2 = strsV (q.map ratT)) : SAt (rows ++ [r]) (M ++ [q]) := by
  refine ⟨by simp [h.1], fun i x hx => ?_⟩
  rw [gM_snoc]
  by_cases h1 : i < M.length
  · rw [if_pos h1]
    rw [List.getElem?_append_left (by rw [h.1]; exact h1)] at hx
    exact h.2 i x hx
  · rw [if_neg h1]
    rw [List.getElem?_append_right (by rw [h.1]; omega)] at hx
    by_cases h2 : i = M.length
    · rw [if_pos h2]
      rw [h.1, h2, Nat.sub_self] at hx
      simp at hx; subst hx; exact hr
    · rw [List.getElem?_eq_none (by simp [h.1]; omega)] at hx; cases hx
end Go.Proofs.YtldokelpolbnnaaGreatDoor
end
section
set_option linter.unusedSectionVars false
set_option linter.unusedVariables false
namespace Go.Proofs.YtldokelpolbnnaaGreatDoor
open Go.RowKit
structure SmI (q : Rat) : Prop where
  den : q.den = 1
  num : q.num.natAbs ≤ 3
theorem SmI.smR {q : Rat} (h : SmI q) : SmR q := ⟨by have := h.num; omega, by rw [h.den]; exact ⟨12, rfl⟩⟩
theorem ratT_int (z : Int) : ratT (z : Rat) = Lib.itoa z := by
  have h1 : ((z : Int) : Rat).den = 1 := by simp
  have h2 : ((z : Int) : Rat).num = z := by simp
  rw [ratT, if_pos h1, h2]
theorem smI_of {z : Int} (h : z ∈ [0, 0, 1, 2, -1, (3 : Int)]) : SmI (z : Rat) := by
  refine ⟨by simp, ?_⟩
  have h2 : ((z : Int) : Rat).num = z := by simp
  rw [h2]
  simp at h
  omega
theorem perm_row2 {s o l : Arr} {rows : List Arr} : (s :: l :: o :: rows).Perm (s :: o :: (rows ++ [l])) := List.Perm.cons _ perm_row
theorem perm_row3 {s o l : Arr} {rows : List Arr} : (l :: s :: o :: rows).Perm (s :: o :: (rows ++ [l])) := (List.Perm.swap _ _ _).trans perm_row2
def ThinOK (M : List (List Rat)) (C : Nat) : Prop := ∀ i, i < M.length → (gM M i).length = C ∧ ∀ q ∈ gM M i, SmI q
theorem ThinOK.snoc {M : List (List Rat)} {C : Nat} {q : List Rat} (h : ThinOK M C) (h1 : q.length = C) (h2 : ∀ x ∈ q, SmI x) : ThinOK (M ++ [q]) C := by
  intro i hi
  rw [gM_snoc]
  by_cases e : i < M.length
  · rw [if_pos e]; exact h i e
  · simp at hi
    rw [if_neg e, if_pos (by omega)]; exact ⟨h1, h2⟩
set_option maxHeartbeats 8000000 in
theorem srcThin0 {u : PH} {s : Src} {ts : List Int} {k R C : Nat} (h : SrcOK u s ts) (hk : k ≤ s.n) (hR : R ≤ 12) (hC' : R = 0 ∨ 0 < C) (hC2 : C ≤ 12) :
    Contract Tryz.prog 56 [s.ptr, .int .i64 (R : Int), .int .i64 (C : Int)] u (s.M k) fun v u' m' => ∃ a c rows M k', v = .slice a R c ∧ SAt rows M ∧ M.length = R ∧ ThinOK M C ∧ k' ≤ s.n ∧ Bag m' (s.arr k' :: omA (.slice a R c) rows :: rows.map sRow) := by
  refine Contract.of Tryz.func56 (by kernel_rfl) (by kernel_rfl) ?_
  refine G.loop (ι := Nat × Nat × (Option Addr × Nat) × List (Value × List Value) × List (List Rat)) (fun i => [(0, .v s.ptr), (1, .v (.int .i64 (R : Int))), (2, .v (.int .i64 (C : Int))), (7, .v (.slice i.2.2.1.1 i.1 i.2.2.1.2)), (8, .v (.int .i64 (i.1 : Int)))]) (fun _ => [])
    (fun i u' m' => i.1 ≤ R ∧ i.2.1 ≤ s.n ∧ SAt i.2.2.2.1 i.2.2.2.2 ∧ i.2.2.2.2.length = i.1 ∧ ThinOK i.2.2.2.2 C ∧ Bag m' (s.arr i.2.1 :: omA (.slice i.2.2.1.1 i.1 i.2.2.1.2) i.2.2.2.1 :: i.2.2.2.1.map sRow))
    (fun i => R - i.1) (0, k, (none, 0), [], []) (by kernel_rfl) (fun _ => by kernel_rfl) ⟨by kernel_rfl, by kernel_rfl, by kernel_rfl⟩
    ⟨Nat.zero_le _, hk, ⟨rfl, fun j r hj => by simp at hj⟩, rfl, fun j hj => by simp at hj, s.bag0 k ⟨PH.mt, ArrAt.nil _ _ _, trivial⟩⟩ ?_
  rintro J ⟨i, k1, ⟨a, c⟩, rows, M⟩ hJ u1 m1 l1 ⟨hi, hk1, hS, hMl, hT, hbag⟩
  simp only at hi hk1 hS hMl hT hbag hJ
  have hrl : rows.length = i := by rw [hS.1, hMl]
  by_cases hlt : i < R
  · have hC : 0 < C := by omega
    refine G.lssT (i : Int) (R : Int) (by kernel_rfl) (by omega) ?_
    rcases Nat.eq_zero_or_pos i with hi0 | hi0
    · subst hi0
      refine G.gtrF ((0 : Nat) : Int) 0 (by kernel_rfl) (by omega) ?_
      refine G.loop (ι := Nat × Nat × (Option Addr × Nat) × List Rat) (fun j => [(0, .v s.ptr), (1, .v (.int .i64 (R : Int))), (2, .v (.int .i64 (C : Int))), (7, .v (.slice a (0 : Nat) c)), (8, .v (.int .i64 ((0 : Nat) : Int))), (9, .v (.slice j.2.2.1.1 j.2.2.2.length j.2.2.1.2)), (10, .v (.int .i64 (j.1 : Int)))]) (fun _ => [])
        (fun j u' m' => j.1 ≤ C ∧ j.2.1 ≤ s.n ∧ j.2.2.2.length = j.1 ∧ (∀ q ∈ j.2.2.2, SmI q) ∧ Bag m' (s.arr j.2.1 :: sRow (.slice j.2.2.1.1 j.2.2.2.length j.2.2.1.2, strsV (j.2.2.2.map ratT)) :: omA (.slice a (0 : Nat) c) rows :: rows.map sRow))
        (fun j => C - j.1) (0, k1, (none, 0), []) (by kernel_rfl) (fun _ => by kernel_rfl) ⟨by kernel_rfl, by kernel_rfl, by kernel_rfl⟩
        ⟨Nat.zero_le _, hk1, rfl, fun q hq => by simp at hq, by
          obtain ⟨m9, hs9, hl9⟩ := hbag
          exact ⟨m9, hs9, m9, ArrAt.nil _ _ _, hl9⟩⟩ ?_
      rintro J2 ⟨j, kj, ⟨aj, cj⟩, qs⟩ hJ2 u10 m10 l10 ⟨hj, hkj, hql, hqs, hbagj⟩
      simp only at hj hkj hql hqs hbagj hJ2
      obtain ⟨mj, hsrcj, hLj⟩ := hbagj
      obtain ⟨rfl, hgj⟩ := Src.split hsrcj
      by_cases hltj : j < C
      · refine G.lssT (j : Int) (C : Int) (by kernel_rfl) (by omega) ?_
        refine G.buildU 3 1 8 (.int .i64 0) (intsZ [0, 0, 1, 2, -1, 3]) (by kernel_rfl) (intsZ_ok _) rfl (by omega) (by simp [intsZ]) (by simp [intsZ]) ?_
        intro g11 u11 l11 e11
        have hLP : ListP u11 (.slice (some ⟨g11, 0, none⟩) 6 6) 1 (intsZ [0, 0, 1, 2, -1, 3]) := ⟨_, 6, rfl, Nat.le_refl _, fun j e hj => ⟨g11, 0, rfl, e11 j e hj⟩⟩
        refine G.callA _ _ (by kernel_rfl) (by kernel_rfl) Tryz.call40 rfl (Src.apart hgj) (srcPick0 (h.mono (l1.trans (l10.trans l11))) hkj hLP (by simp) (by simp)) ?_
        rintro v12 u12 m12 l12 ⟨z, hz, k12, rfl, hk12, rfl⟩ _
        have hzs := smI_of hz
        have hzb : -9223372036854775807 ≤ z ∧ z ≤ 9223372036854775807 := by simp at hz; omega
        refine G.call0 _ _ (by kernel_rfl) Tryz.call100 (refWhole0 hzb.1 hzb.2) ?_
        rintro v13 u13 l13 rfl
        rw [← ratT_int]
        refine G.buildU 34 1 16 (.string (mkS [])) [.string (mkS (ratT (z : Rat)))] (by kernel_rfl) (strsV_ok [ratT (z : Rat)]) rfl (by omega) (by simp) (by simp) ?_
        intro g14 u14 l14 e14
        have hbagk : Bag (mj.or (s.M k12)) (s.arr k12 :: sRow (.slice aj qs.length cj, strsV (qs.map ratT)) :: omA (.slice a (0 : Nat) c) rows :: rows.map sRow) := ⟨mj, Src.at hgj, hLj⟩
        obtain ⟨mm, hx0, hput⟩ := hbagk.focus 1 rfl
        rw [sRow_at] at hx0
        refine G.append 34 1 16 (.string (mkS [])) mm (strsV (qs.map ratT)) [.string (mkS (ratT (z : Rat)))] (.slice aj qs.length cj) g14 0 1 1 (by kernel_rfl) rfl rfl (by omega) hx0 e14 (strsV_ok [ratT (z : Rat)]) rfl (by omega) (by simp [strsV]; omega) (by simp [strsV]; omega) ?_
        intro v15 m15 hx15
        rw [strsV_snoc, show qs.map ratT ++ [ratT (z : Rat)] = (qs ++ [(z : Rat)]).map ratT by simp] at hx15
        obtain ⟨a15, c15, rfl⟩ := hx15.shape
        have el : (strsV ((qs ++ [(z : Rat)]).map ratT)).length = (qs ++ [(z : Rat)]).length := by simp [strsV]
        rw [el] at hx15 ⊢
        have hbagl := hput (sRow (.slice a15 (qs ++ [(z : Rat)]).length c15, strsV ((qs ++ [(z : Rat)]).map ratT))) m15 hx15
        refine G.add (j : Int) 1 ((j + 1 : Nat) : Int) (by kernel_rfl) (by omega) (by omega) (by omega) ?_
        refine G.back (by kernel_rfl) (hJ2 (j + 1, k12, (a15, c15), qs ++ [(z : Rat)]) _ _ _ ⟨by kernel_rfl, by kernel_rfl, by kernel_rfl⟩ ((((l10.trans l11).trans l12).trans l13).trans l14) ⟨by dsimp only; omega, hk12, by dsimp only; simp [hql], ?_, hbagl⟩ (by dsimp only; omega))
        intro x hx
        rcases List.mem_append.1 hx with hx | hx
        · exact hqs x hx
        · simp at hx; subst hx; exact hzs
      · obtain rfl : j = C := by omega
        refine G.lssF (j : Int) (j : Int) (by kernel_rfl) (by omega) ?_
        have hbagk : Bag (mj.or (s.M kj)) (s.arr kj :: sRow (.slice aj qs.length cj, strsV (qs.map ratT)) :: omA (.slice a (0 : Nat) c) rows :: rows.map sRow) := ⟨mj, hsrcj, hLj⟩
        refine G.buildU 27 1 24 (.slice none 0 0) [.slice aj qs.length cj] (by kernel_rfl) (slice_ok _ _ _) rfl (by omega) (by simp) (by simp) ?_
        intro g15 u15 l15 e15
        obtain ⟨mm, hx0, hput⟩ := hbagk.focus 2 rfl
        rw [omA_at] at hx0
        refine G.append 27 1 24 (.slice none 0 0) mm (rows.map (·.1)) [.slice aj qs.length cj] (.slice a (0 : Nat) c) g15 0 1 1 (by kernel_rfl) rfl rfl (by omega) hx0 e15 (slice_ok _ _ _) rfl (by omega) (by simp; omega) (by simp; omega) ?_
        intro v16 m16 hx16
        have em : rows.map (·.1) ++ [Value.slice aj qs.length cj] = (rows ++ [(Value.slice aj qs.length cj, strsV (qs.map ratT))]).map (·.1) := by simp
        rw [em] at hx16
        obtain ⟨a16, c16, rfl⟩ := hx16.shape
        have el : ((rows ++ [(Value.slice aj qs.length cj, strsV (qs.map ratT))]).map (·.1)).length = (0 : Nat) + 1 := by simp [hrl]
        rw [el] at hx16 ⊢
        have hbagl := hput (omA (.slice a16 ((0 : Nat) + 1) c16) (rows ++ [(Value.slice aj qs.length cj, strsV (qs.map ratT))])) m16 hx16
        have hbagm := Bag.perm perm_row2 hbagl
        refine G.add (((0 : Nat) : Nat) : Int) 1 (((0 : Nat) + 1 : Nat) : Int) (by kernel_rfl) (by omega) (by omega) (by omega) ?_
        exact G.back (by kernel_rfl) (hJ ((0 : Nat) + 1, kj, (a16, c16), rows ++ [(Value.slice aj qs.length cj, strsV (qs.map ratT))], M ++ [qs]) _ _ _ ⟨by kernel_rfl, by kernel_rfl, by kernel_rfl⟩ (l1.trans (l10.trans l15)) ⟨by dsimp only; omega, hkj, hS.snoc rfl, by simp [hMl], hT.snoc hql hqs, by simpa using hbagm⟩ (by dsimp only; omega))
    · refine G.gtrT (i : Int) 0 (by kernel_rfl) (by omega) ?_
      obtain ⟨m0, hsrc, hL⟩ := hbag
      obtain ⟨rfl, hg0⟩ := Src.split hsrc
      refine G.callA _ _ (by kernel_rfl) (by kernel_rfl) Tryz.call10 rfl (Src.apart hg0) (srcN0 (n := 4) (h.mono l1) hk1 (by omega) (by omega)) ?_
      rintro v2 u2 m2 l2 ⟨r, k2, rfl, hr, hk2, rfl⟩ _
      by_cases hr3 : r = 3
      · refine G.eqlT (r : Int) 3 (by kernel_rfl) (by omega) ?_
        refine G.callA _ _ (by kernel_rfl) (by kernel_rfl) Tryz.call10 rfl (Src.apart hg0) (srcN0 (n := i) (h.mono (l1.trans l2)) hk2 hi0 (by omega)) ?_
        rintro v3 u3 m3 l3 ⟨r2, k3, rfl, hr2, hk3, rfl⟩ _
        have hbag2 : Bag (m0.or (s.M k3)) (s.arr k3 :: omA (.slice a i c) rows :: rows.map sRow) := ⟨m0, Src.at hg0, hL⟩
        have hrr : rows[r2]? = some rows[r2] := List.getElem?_eq_getElem (by omega)
        have hrc := hS.2 r2 _ hrr
        obtain ⟨⟨rv, res⟩, hre⟩ : ∃ x, rows[r2] = x := ⟨_, rfl⟩
        rw [hre] at hrr hrc
        simp only at hrc
        obtain ⟨hq1, hq2⟩ := hT r2 (by omega)
        have hget : (s.arr k3 :: omA (.slice a i c) rows :: rows.map sRow)[r2 + 2]? = some (sRow (rv, res)) := by simp [hrr]
        have hresl : res.length = C := by rw [hrc]; simp [strsV, hq1]
        obtain ⟨gr, cr, e⟩ := hbag2.ptr (r2 + 2) hget (by intro e; simp only [sRow] at e; rw [e] at hresl; simp at hresl; omega)
        simp only [sRow] at e
        rw [hresl] at e
        subst e
        obtain ⟨go, co, eo⟩ := hbag2.ptr 1 rfl (by intro e; simp only [omA, List.map_eq_nil_iff] at e; rw [e] at hrl; simp at hrl; omega)
        simp only [omA, Value.slice.injEq] at eo
        obtain ⟨rfl, _, rfl⟩ := eo
        have hro : ElP (m0.or (s.M k3)) go (0 + r2 * 1) (.slice (some ⟨gr, 0, none⟩) C cr) := hbag2.el 1 (x := omA _ rows) rfl rfl (by show (rows.map (·.1))[r2]? = _; rw [List.getElem?_map, hrr]; rfl)
        have hxs : ElsP (m0.or (s.M k3)) gr 0 1 res := fun j e hj => hbag2.el (r2 + 2) hget rfl hj
        refine G.addr go 0 i c r2 1 (by kernel_rfl) hr2 ?_
        refine G.loadM none go (0 + r2 * 1) _ (by kernel_rfl) (by kernel_rfl) hro ?_
        refine G.appendM 34 1 16 (.string (mkS [])) (m0.or (s.M k3)) [] res (.slice none 0 0) gr 0 C cr (by kernel_rfl) rfl rfl (by omega) (ArrAt.nil _ _ _) hxs (by rw [hrc]; exact strsV_ok _) hresl hC (by simp; omega) (by simp; omega) ?_
        intro v4 m4 hx4
        rw [List.nil_append] at hx4
        obtain ⟨a4, c4, rfl⟩ := hx4.shape
        rw [hresl] at hx4 ⊢
        have hbag3 : Bag m4 (sRow (.slice a4 C c4, res) :: s.arr k3 :: omA (.slice (some ⟨go, 0, none⟩) i c) rows :: rows.map sRow) := ⟨_, hx4, hbag2⟩
        refine G.buildU 27 1 24 (.slice none 0 0) [.slice a4 C c4] (by kernel_rfl) (slice_ok _ _ _) rfl (by omega) (by simp) (by simp) ?_
        intro g5 u5 l5 e5
        obtain ⟨mm, hx0, hput⟩ := hbag3.focus 2 rfl
        rw [omA_at] at hx0
        refine G.append 27 1 24 (.slice none 0 0) mm (rows.map (·.1)) [.slice a4 C c4] (.slice (some ⟨go, 0, none⟩) i c) g5 0 1 1 (by kernel_rfl) rfl rfl (by omega) hx0 e5 (slice_ok _ _ _) rfl (by omega) (by simp; omega) (by simp; omega) ?_
        intro v6 m6 hx6
        have em : rows.map (·.1) ++ [Value.slice a4 C c4] = (rows ++ [(Value.slice a4 C c4, res)]).map (·.1) := by simp
        rw [em] at hx6
        obtain ⟨a6, c6, rfl⟩ := hx6.shape
        have el : ((rows ++ [(Value.slice a4 C c4, res)]).map (·.1)).length = i + 1 := by simp [hrl]
        rw [el] at hx6 ⊢
        have hbag4 := hput (omA (.slice a6 (i + 1) c6) (rows ++ [(Value.slice a4 C c4, res)])) m6 hx6
        have hbag5 := Bag.perm perm_row3 hbag4
        refine G.add (i : Int) 1 ((i + 1 : Nat) : Int) (by kernel_rfl) (by omega) (by omega) (by omega) ?_
        exact G.back (by kernel_rfl) (hJ (i + 1, k3, (a6, c6), rows ++ [(.slice a4 C c4, res)], M ++ [gM M r2]) _ _ _ ⟨by kernel_rfl, by kernel_rfl, by kernel_rfl⟩ (((l1.trans l2).trans l3).trans l5) ⟨by dsimp only; omega, hk3, hS.snoc hrc, by simp [hMl], hT.snoc hq1 hq2, by simpa using hbag5⟩ (by dsimp only; omega))
      · refine G.eqlF (r : Int) 3 (by kernel_rfl) (by omega) ?_
        have hbag : Bag (m0.or (s.M k2)) (s.arr k2 :: omA (.slice a i c) rows :: rows.map sRow) := ⟨m0, Src.at hg0, hL⟩
        refine G.loop (ι := Nat × Nat × (Option Addr × Nat) × List Rat) (fun j => [(0, .v s.ptr), (1, .v (.int .i64 (R : Int))), (2, .v (.int .i64 (C : Int))), (7, .v (.slice a i c)), (8, .v (.int .i64 (i : Int))), (9, .v (.slice j.2.2.1.1 j.2.2.2.length j.2.2.1.2)), (10, .v (.int .i64 (j.1 : Int)))]) (fun _ => [])
          (fun j u' m' => j.1 ≤ C ∧ j.2.1 ≤ s.n ∧ j.2.2.2.length = j.1 ∧ (∀ q ∈ j.2.2.2, SmI q) ∧ Bag m' (s.arr j.2.1 :: sRow (.slice j.2.2.1.1 j.2.2.2.length j.2.2.1.2, strsV (j.2.2.2.map ratT)) :: omA (.slice a i c) rows :: rows.map sRow))
          (fun j => C - j.1) (0, k2, (none, 0), []) (by kernel_rfl) (fun _ => by kernel_rfl) ⟨by kernel_rfl, by kernel_rfl, by kernel_rfl⟩
          ⟨Nat.zero_le _, hk2, rfl, fun q hq => by simp at hq, by
            obtain ⟨m9, hs9, hl9⟩ := hbag
            exact ⟨m9, hs9, m9, ArrAt.nil _ _ _, hl9⟩⟩ ?_
        rintro J2 ⟨j, kj, ⟨aj, cj⟩, qs⟩ hJ2 u10 m10 l10 ⟨hj, hkj, hql, hqs, hbagj⟩
        simp only at hj hkj hql hqs hbagj hJ2
        obtain ⟨mj, hsrcj, hLj⟩ := hbagj
        obtain ⟨rfl, hgj⟩ := Src.split hsrcj
        by_cases hltj : j < C
        · refine G.lssT (j : Int) (C : Int) (by kernel_rfl) (by omega) ?_
          refine G.buildU 3 1 8 (.int .i64 0) (intsZ [0, 0, 1, 2, -1, 3]) (by kernel_rfl) (intsZ_ok _) rfl (by omega) (by simp [intsZ]) (by simp [intsZ]) ?_
          intro g11 u11 l11 e11
          have hLP : ListP u11 (.slice (some ⟨g11, 0, none⟩) 6 6) 1 (intsZ [0, 0, 1, 2, -1, 3]) := ⟨_, 6, rfl, Nat.le_refl _, fun j e hj => ⟨g11, 0, rfl, e11 j e hj⟩⟩
          refine G.callA _ _ (by kernel_rfl) (by kernel_rfl) Tryz.call40 rfl (Src.apart hgj) (srcPick0 (h.mono ((l1.trans l2).trans (l10.trans l11))) hkj hLP (by simp) (by simp)) ?_
          rintro v12 u12 m12 l12 ⟨z, hz, k12, rfl, hk12, rfl⟩ _
          have hzs := smI_of hz
          have hzb : -9223372036854775807 ≤ z ∧ z ≤ 9223372036854775807 := by simp at hz; omega
          refine G.call0 _ _ (by kernel_rfl) Tryz.call100 (refWhole0 hzb.1 hzb.2) ?_
          rintro v13 u13 l13 rfl
          rw [← ratT_int]
          refine G.buildU 34 1 16 (.string (mkS [])) [.string (mkS (ratT (z : Rat)))] (by kernel_rfl) (strsV_ok [ratT (z : Rat)]) rfl (by omega) (by simp) (by simp) ?_
          intro g14 u14 l14 e14
          have hbagk : Bag (mj.or (s.M k12)) (s.arr k12 :: sRow (.slice aj qs.length cj, strsV (qs.map ratT)) :: omA (.slice a i c) rows :: rows.map sRow) := ⟨mj, Src.at hgj, hLj⟩
          obtain ⟨mm, hx0, hput⟩ := hbagk.focus 1 rfl
          rw [sRow_at] at hx0
          refine G.append 34 1 16 (.string (mkS [])) mm (strsV (qs.map ratT)) [.string (mkS (ratT (z : Rat)))] (.slice aj qs.length cj) g14 0 1 1 (by kernel_rfl) rfl rfl (by omega) hx0 e14 (strsV_ok [ratT (z : Rat)]) rfl (by omega) (by simp [strsV]; omega) (by simp [strsV]; omega) ?_
          intro v15 m15 hx15
          rw [strsV_snoc, show qs.map ratT ++ [ratT (z : Rat)] = (qs ++ [(z : Rat)]).map ratT by simp] at hx15
          obtain ⟨a15, c15, rfl⟩ := hx15.shape
          have el : (strsV ((qs ++ [(z : Rat)]).map ratT)).length = (qs ++ [(z : Rat)]).length := by simp [strsV]
          rw [el] at hx15 ⊢
          have hbagl := hput (sRow (.slice a15 (qs ++ [(z : Rat)]).length c15, strsV ((qs ++ [(z : Rat)]).map ratT))) m15 hx15
          refine G.add (j : Int) 1 ((j + 1 : Nat) : Int) (by kernel_rfl) (by omega) (by omega) (by omega) ?_
          refine G.back (by kernel_rfl) (hJ2 (j + 1, k12, (a15, c15), qs ++ [(z : Rat)]) _ _ _ ⟨by kernel_rfl, by kernel_rfl, by kernel_rfl⟩ ((((l10.trans l11).trans l12).trans l13).trans l14) ⟨by dsimp only; omega, hk12, by dsimp only; simp [hql], ?_, hbagl⟩ (by dsimp only; omega))
          intro x hx
          rcases List.mem_append.1 hx with hx | hx
          · exact hqs x hx
          · simp at hx; subst hx; exact hzs
        · obtain rfl : j = C := by omega
          refine G.lssF (j : Int) (j : Int) (by kernel_rfl) (by omega) ?_
          have hbagk : Bag (mj.or (s.M kj)) (s.arr kj :: sRow (.slice aj qs.length cj, strsV (qs.map ratT)) :: omA (.slice a i c) rows :: rows.map sRow) := ⟨mj, hsrcj, hLj⟩
          refine G.buildU 27 1 24 (.slice none 0 0) [.slice aj qs.length cj] (by kernel_rfl) (slice_ok _ _ _) rfl (by omega) (by simp) (by simp) ?_
          intro g15 u15 l15 e15
          obtain ⟨mm, hx0, hput⟩ := hbagk.focus 2 rfl
          rw [omA_at] at hx0
          refine G.append 27 1 24 (.slice none 0 0) mm (rows.map (·.1)) [.slice aj qs.length cj] (.slice a i c) g15 0 1 1 (by kernel_rfl) rfl rfl (by omega) hx0 e15 (slice_ok _ _ _) rfl (by omega) (by simp; omega) (by simp; omega) ?_
          intro v16 m16 hx16
          have em : rows.map (·.1) ++ [Value.slice aj qs.length cj] = (rows ++ [(Value.slice aj qs.length cj, strsV (qs.map ratT))]).map (·.1) := by simp
          rw [em] at hx16
          obtain ⟨a16, c16, rfl⟩ := hx16.shape
          have el : ((rows ++ [(Value.slice aj qs.length cj, strsV (qs.map ratT))]).map (·.1)).length = i + 1 := by simp [hrl]
          rw [el] at hx16 ⊢
          have hbagl := hput (omA (.slice a16 (i + 1) c16) (rows ++ [(Value.slice aj qs.length cj, strsV (qs.map ratT))])) m16 hx16
          have hbagm := Bag.perm perm_row2 hbagl
          refine G.add ((i : Nat) : Int) 1 ((i + 1 : Nat) : Int) (by kernel_rfl) (by omega) (by omega) (by omega) ?_
          exact G.back (by kernel_rfl) (hJ (i + 1, kj, (a16, c16), rows ++ [(Value.slice aj qs.length cj, strsV (qs.map ratT))], M ++ [qs]) _ _ _ ⟨by kernel_rfl, by kernel_rfl, by kernel_rfl⟩ ((l1.trans l2).trans (l10.trans l15)) ⟨by dsimp only; omega, hkj, hS.snoc rfl, by simp [hMl], hT.snoc hql hqs, by simpa using hbagm⟩ (by dsimp only; omega))
  · obtain rfl : i = R := by omega
    refine G.lssF (i : Int) (i : Int) (by kernel_rfl) (by omega) ?_
    exact G.ret (.slice a i c) (by kernel_rfl) ⟨a, c, rows, M, k1, rfl, hS, hMl, hT, hk1, hbag⟩
def symUpd (M : List (List Rat)) (i k : Nat) : List (List Rat) := M.set i ((gM M i).set k (gR (gM M k) i))
theorem SAt.set {rows : List (Value × List Value)} {M : List (List Rat)} {i : Nat} {r : Value × List Value} {q : List Rat} (h : SAt rows M) (hi : i < rows.length) (hr : r.2 = strsV (q.map ratT)) : SAt (rows.set i r) (M.set i q) := by
  refine ⟨by simp [h.1], fun j r' hj => ?_⟩
  rw [gM_set (by rw [← h.1]; exact hi)]
  rw [List.getElem?_set] at hj
  by_cases e : i = j
  · subst e
    rw [if_pos rfl, if_pos hi] at hj
    simp only [Option.some.injEq] at hj
    rw [if_pos rfl, ← hj]; exact hr
  · rw [if_neg e] at hj ⊢
    exact h.2 j r' hj
theorem get_srow {s o : Arr} {rows : List (Value × List Value)} {i : Nat} {r : Value × List Value} (h : rows[i]? = some r) : (s :: o :: rows.map sRow)[i + 2]? = some (sRow r) := by simp [h]
theorem set_srow {s o : Arr} {rows : List (Value × List Value)} {i : Nat} {r : Value × List Value} : (s :: o :: rows.map sRow).set (i + 2) (sRow r) = s :: o :: (rows.set i r).map sRow := by
  rw [List.set_cons_succ, List.set_cons_succ, List.map_set]
theorem map_fst_set {rows : List (Value × List Value)} {i : Nat} {r r' : Value × List Value} (h : rows[i]? = some r) (e : r'.1 = r.1) : (rows.set i r').map (·.1) = rows.map (·.1) := by
  rw [List.map_set]
  apply List.ext_getElem?
  intro j
  rw [List.getElem?_set]
  split
  · rename_i e'; subst e'
    have hlt : i < rows.length := by
      rcases Nat.lt_or_ge i rows.length with h' | h'
      · exact h'
      · rw [List.getElem?_eq_none h'] at h; cases h
    rw [if_pos (by simpa using hlt), List.getElem?_map, h, e]; rfl
  · rfl
set_option maxHeartbeats 4000000 in
theorem srcSymmetric0 {u : PH} {s : Src} {ts : List Int} {k n : Nat} (h : SrcOK u s ts) (hk : k ≤ s.n) (hn2 : n ≤ 12) :
    Contract Tryz.prog 22 [s.ptr, .int .i64 (n : Int)] u (s.M k) fun v u' m' => ∃ (A : List (List Rat)) (k' : Nat), MatP u' v (matT A) ∧ A.length = n ∧ ThinOK A n ∧ (∀ i j, j < i → i < n → gR (gM A i) j = gR (gM A j) i) ∧ k' ≤ s.n ∧ m' = s.M k' := by
  refine Contract.of Tryz.func22 (by kernel_rfl) (by kernel_rfl) ?_
  refine G.callA _ _ (by kernel_rfl) (by kernel_rfl) Tryz.call56 (mt_or _).symm (apart_mt _) (srcThin0 h hk hn2 (by omega) hn2) ?_
  rintro v1 u1 m1 l1 ⟨a, c, rows, M, k1, rfl, hS, hMl, hT, hk1, hbag⟩ _
  rw [mt_or]
  refine G.loop (ι := Nat × List (Value × List Value) × List (List Rat)) (fun i => [(5, .v (.slice a n c)), (13, .v (.int .i64 (n : Int))), (14, .v (.int .i64 (i.1 : Int)))]) (fun _ => [])
    (fun i u' m' => i.1 ≤ n ∧ SAt i.2.1 i.2.2 ∧ i.2.2.length = n ∧ ThinOK i.2.2 n ∧ (∀ x y, y < x → x < i.1 → gR (gM i.2.2 x) y = gR (gM i.2.2 y) x) ∧ Bag m' (s.arr k1 :: omA (.slice a n c) i.2.1 :: i.2.1.map sRow))
    (fun i => n - i.1) (0, rows, M) (by kernel_rfl) (fun _ => by kernel_rfl) ⟨by kernel_rfl, by kernel_rfl, by kernel_rfl⟩ ⟨Nat.zero_le _, hS, hMl, hT, fun x y _ h => absurd h (Nat.not_lt_zero _), hbag⟩ ?_
  clear hbag hS hMl hT
  rintro J ⟨i, rows, M⟩ hJ u2 m2 l2 ⟨hi, hS, hMl, hT, hsym, hbag⟩
  simp only at hi hS hMl hT hsym hbag hJ
  by_cases hlt : i < n
  · refine G.lssT (i : Int) (n : Int) (by kernel_rfl) (by omega) ?_
    refine G.loop (ι := Nat × List (Value × List Value) × List (List Rat)) (fun j => [(5, .v (.slice a n c)), (13, .v (.int .i64 (n : Int))), (14, .v (.int .i64 (i : Int))), (6, .v (.int .i64 (i : Int))), (7, .v (.int .i64 (j.1 : Int)))]) (fun _ => [])
      (fun j u' m' => j.1 ≤ i ∧ SAt j.2.1 j.2.2 ∧ j.2.2.length = n ∧ ThinOK j.2.2 n ∧ (∀ x y, y < x → x < i → gR (gM j.2.2 x) y = gR (gM j.2.2 y) x) ∧ (∀ y, y < j.1 → gR (gM j.2.2 i) y = gR (gM j.2.2 y) i) ∧ Bag m' (s.arr k1 :: omA (.slice a n c) j.2.1 :: j.2.1.map sRow))
      (fun j => i - j.1) (0, rows, M) (by kernel_rfl) (fun _ => by kernel_rfl) ⟨by kernel_rfl, by kernel_rfl, by kernel_rfl⟩ ⟨Nat.zero_le _, hS, hMl, hT, hsym, fun y hy => absurd hy (Nat.not_lt_zero _), hbag⟩ ?_
    clear hbag hS hMl hT hsym
    rintro J2 ⟨j, rows, M⟩ hJ2 u3 m3 l3 ⟨hj, hS, hMl, hT, hsym, hsy2, hbag⟩
    simp only at hj hS hMl hT hsym hsy2 hbag hJ2
    have hrl : rows.length = n := by rw [hS.1, hMl]
    by_cases hltj : j < i
    · refine G.lssT (j : Int) (i : Int) (by kernel_rfl) (by omega) ?_
      have hgi := hT i (by omega)
      have hgj := hT j (by omega)
      have hri : rows[i]? = some rows[i] := List.getElem?_eq_getElem (by omega)
      have hrj : rows[j]? = some rows[j] := List.getElem?_eq_getElem (by omega)
      have hci := hS.2 i _ hri
      have hcj := hS.2 j _ hrj
      obtain ⟨⟨vi, ei⟩, hei⟩ : ∃ x, rows[i] = x := ⟨_, rfl⟩
      obtain ⟨⟨vj, ej⟩, hej⟩ : ∃ x, rows[j] = x := ⟨_, rfl⟩
      rw [hei] at hri hci
      rw [hej] at hrj hcj
      simp only at hci hcj
      have hil : ei.length = n := by rw [hci]; simp [strsV, hgi.1]
      have hjl : ej.length = n := by rw [hcj]; simp [strsV, hgj.1]
      obtain ⟨go, co, eo⟩ := hbag.ptr 1 rfl (by intro e; simp only [omA, List.map_eq_nil_iff] at e; rw [e] at hrl; simp at hrl; omega)
      simp only [omA, Value.slice.injEq] at eo
      obtain ⟨rfl, _, rfl⟩ := eo
      obtain ⟨g1, c1, e1⟩ := hbag.ptr (i + 2) (get_srow hri) (by intro e; simp only [sRow] at e; rw [e] at hil; simp at hil; omega)
      simp only [sRow] at e1
      rw [hil] at e1
      subst e1
      obtain ⟨g2, c2, e2⟩ := hbag.ptr (j + 2) (get_srow hrj) (by intro e; simp only [sRow] at e; rw [e] at hjl; simp at hjl; omega)
      simp only [sRow] at e2
      rw [hjl] at e2
      subst e2
      have ho1 : ElP m3 go (0 + i * 1) (.slice (some ⟨g1, 0, none⟩) n c1) := hbag.el 1 (x := omA _ rows) rfl rfl (by show (rows.map (·.1))[i]? = _; rw [List.getElem?_map, hri]; rfl)
      have ho2 : ElP m3 go (0 + j * 1) (.slice (some ⟨g2, 0, none⟩) n c2) := hbag.el 1 (x := omA _ rows) rfl rfl (by show (rows.map (·.1))[j]? = _; rw [List.getElem?_map, hrj]; rfl)
      have hii : i < (gM M j).length := by rw [hgj.1]; exact hlt
      have hev : ej[i]? = some (.string (mkS (ratT (gR (gM M j) i)))) := by rw [hcj]; simp [strsV, List.getElem?_eq_getElem hii, gR_at hii]
      have he2 : ElP m3 g2 (0 + i * 1) (.string (mkS (ratT (gR (gM M j) i)))) := hbag.el (j + 2) (get_srow hrj) rfl hev
      refine G.addr go 0 n c i 1 (by kernel_rfl) (by omega) ?_
      refine G.loadM none go (0 + i * 1) _ (by kernel_rfl) (by kernel_rfl) ho1 ?_
      refine G.addr go 0 n c j 1 (by kernel_rfl) (by omega) ?_
      refine G.loadM none go (0 + j * 1) _ (by kernel_rfl) (by kernel_rfl) ho2 ?_
      refine G.addr g2 0 n c2 i 1 (by kernel_rfl) (by omega) ?_
      refine G.loadM none g2 (0 + i * 1) _ (by kernel_rfl) (by kernel_rfl) he2 ?_
      obtain ⟨m0, hx0, hput⟩ := hbag.focus (i + 2) (get_srow hri)
      rw [sRow_at] at hx0
      refine G.addr g1 0 n c1 j 1 (by kernel_rfl) (by omega) ?_
      refine G.storeA 1 m0 ei g1 n c1 j (.string (mkS (ratT (gR (gM M j) i)))) (by kernel_rfl) hx0 (by omega) rfl rfl ?_
      intro m4 hx4
      have hbag2 := hput (sRow (.slice (some ⟨g1, 0, none⟩) n c1, ei.set j (.string (mkS (ratT (gR (gM M j) i)))))) m4 hx4
      rw [set_srow] at hbag2
      have hom : omA (.slice (some ⟨go, 0, none⟩) n c) (rows.set i (.slice (some ⟨g1, 0, none⟩) n c1, ei.set j (.string (mkS (ratT (gR (gM M j) i)))))) = omA (.slice (some ⟨go, 0, none⟩) n c) rows := by
        unfold omA; rw [map_fst_set (r' := (.slice (some ⟨g1, 0, none⟩) n c1, ei.set j (.string (mkS (ratT (gR (gM M j) i)))))) hri rfl]
      have hgg : ∀ x y, gR (gM (symUpd M i j) x) y = if i = x then (if j = y then gR (gM M j) i else gR (gM M i) y) else gR (gM M x) y := by
        intro x y
        unfold symUpd
        rw [gM_set (by omega)]
        by_cases e : i = x
        · rw [if_pos e, if_pos e, gR_set (by rw [hgi.1]; omega)]
        · rw [if_neg e, if_neg e]
      refine G.add (j : Int) 1 ((j + 1 : Nat) : Int) (by kernel_rfl) (by omega) (by omega) (by omega) ?_
      refine G.back (by kernel_rfl) (hJ2 (j + 1, rows.set i (.slice (some ⟨g1, 0, none⟩) n c1, ei.set j (.string (mkS (ratT (gR (gM M j) i))))), symUpd M i j) _ _ _ ⟨by kernel_rfl, by kernel_rfl, by kernel_rfl⟩ l3 ⟨by dsimp only; omega, ?_, ?_, ?_, ?_, ?_, ?_⟩ (by dsimp only; omega))
      · refine hS.set (by omega) ?_
        dsimp only
        rw [hci]; unfold strsV; rw [← List.map_set, ← List.map_set]
      · dsimp only; unfold symUpd; simp [hMl]
      · intro x hx
        dsimp only at hx ⊢
        unfold symUpd at hx ⊢
        rw [List.length_set] at hx
        rw [gM_set (by omega)]
        by_cases e : i = x
        · rw [if_pos e, List.length_set]
          refine ⟨hgi.1, fun q hq => ?_⟩
          rcases List.mem_or_eq_of_mem_set hq with hq | rfl
          · exact hgi.2 q hq
          · exact hgj.2 _ (gR_mem hii)
        · rw [if_neg e]; exact hT x hx
      · intro x y h1 h2
        dsimp only at h2 ⊢
        rw [hgg, hgg, if_neg (by omega), if_neg (by omega)]
        exact hsym x y h1 h2
      · intro y hy
        dsimp only at hy ⊢
        have e1 : gR (gM (symUpd M i j) i) y = if j = y then gR (gM M j) i else gR (gM M i) y := by rw [hgg, if_pos rfl]
        have e2 : gR (gM (symUpd M i j) y) i = gR (gM M y) i := by rw [hgg, if_neg (by omega)]
        rw [e1, e2]
        by_cases e : j = y
        · rw [if_pos e, e]
        · rw [if_neg e]; exact hsy2 y (by omega)
      · dsimp only; rw [hom]; exact hbag2
    · obtain rfl : j = i := by omega
      refine G.lssF (j : Int) (j : Int) (by kernel_rfl) (by omega) ?_
      refine G.add (j : Int) 1 ((j + 1 : Nat) : Int) (by kernel_rfl) (by omega) (by omega) (by omega) ?_
      refine G.back (by kernel_rfl) (hJ (j + 1, rows, M) _ _ _ ⟨by kernel_rfl, by kernel_rfl, by kernel_rfl⟩ (l2.trans l3) ⟨by dsimp only; omega, hS, hMl, hT, ?_, hbag⟩ (by dsimp only; omega))
      intro x y h1 h2
      dsimp only at h2 ⊢
      by_cases e : x = j
      · subst e; exact hsy2 y h1
      · exact hsym x y h1 (by omega)
  · obtain rfl : i = n := by omega
    refine G.lssF (i : Int) (i : Int) (by kernel_rfl) (by omega) ?_
    obtain ⟨m0, hsrc, hL⟩ := hbag
    obtain ⟨rfl, hg0⟩ := Src.split hsrc
    refine G.giveP (ma := m0) (sm := s.M k1) (by kernel_rfl) rfl (Src.apart hg0) (s.h0 k k1) ?_
    intro u3 l3 hm
    refine G.ret (.slice a i c) (by kernel_rfl) ⟨M, k1, ?_, hMl, hT, fun x y h1 h2 => hsym x y h1 h2, hk1, rfl⟩
    refine ⟨rows.map (fun r : Value × List Value => r.1), hL.list hm 0 rfl, ?_, fun x r hx => ?_⟩
    · simp [matT, hS.1]
    · have hxl : x < M.length := by
        rcases Nat.lt_or_ge x M.length with h' | h'
        · exact h'
        · rw [List.getElem?_eq_none (by simpa [matT] using h')] at hx; cases hx
      have hxr : x < rows.length := by rw [hS.1]; exact hxl
      have hrx : rows[x]? = some rows[x] := List.getElem?_eq_getElem hxr
      have hcx := hS.2 x _ hrx
      have hrm : r = (gM M x).map ratT := by
        rw [matT, List.getElem?_map, List.getElem?_eq_getElem hxl] at hx
        simp at hx; rw [← hx, gM_at hxl]
      subst hrm
      have hlp := hL.list hm (x + 1) (x := sRow rows[x]) (by simp [hrx])
      simp only [sRow] at hlp
      rw [hcx] at hlp
      obtain ⟨ax, cx, ex⟩ := hlp.opn
      rw [strsV_length] at ex
      refine ⟨ax, cx, ?_, ?_⟩
      · rw [List.getElem?_map, hrx, ← ex]; rfl
      · rw [← ex]; exact hlp
end Go.Proofs.YtldokelpolbnnaaGreatDoor
end
section
set_option linter.unusedSectionVars false
set_option linter.unusedVariables false
namespace Go.Proofs.YtldokelpolbnnaaGreatDoor
open Go.RowKit
theorem all_small {p : List Rat} (h : p.all smallB = true) : (∀ q ∈ p, Tx q) ∧ SzL p 12 := by
  rw [List.all_eq_true] at h
  exact ⟨fun q hq => (smallB_spec (h q hq)).1, fun q hq => (smallB_spec (h q hq)).2⟩
structure Tw (q : Rat) : Prop where
  den : q.den ∣ 12
  num : q.num.natAbs ≤ 1000
theorem Tw.small {q : Rat} (h : Tw q) : smallB q = true := by
  have h1 := h.num
  have h2 : q.den ≤ 12 := Nat.le_of_dvd (by omega) h.den
  simp only [smallB, Bool.and_eq_true, decide_eq_true_eq]
  have e : (1000 : Nat) < 10 ^ 100 := by decide
  exact ⟨Nat.lt_of_le_of_lt h1 e, Nat.lt_of_le_of_lt (by omega : q.den ≤ 1000) e⟩
theorem Tw.tx {q : Rat} (h : Tw q) : Tx q := (smallB_spec h.small).1
theorem Tw.sz {q : Rat} (h : Tw q) : Sz q 12 := (smallB_spec h.small).2
theorem light12 {A : List (List Rat)} (h : ∀ r ∈ A, ∀ q ∈ r, Tw q) : Light A 12 100 := by
  refine ⟨fun r hr q hq => (h r hr q hq).den, by omega, Nat.le_trans (nl_le_of_lt (k := 1) (by omega)) (by omega), fun D hD h0 => ⟨?_, fun r hr q hq hd => ?_⟩⟩
  · have : D ≤ 12 := Nat.le_of_dvd (by omega) hD
    exact Nat.le_trans (dig_of_lt (k := 2) (by omega) (by omega)) (by omega)
  · have h1 : D ≤ 12 := Nat.le_of_dvd (by omega) hD
    have h2 := (h r hr q hq).num
    have h3 : D / q.den ≤ 12 := Nat.le_trans (Nat.div_le_self _ _) h1
    rw [Int.natAbs_mul, Int.natAbs_natCast]
    have h4 : q.num.natAbs * (D / q.den) ≤ 1000 * 12 := Nat.mul_le_mul h2 h3
    exact Nat.le_trans (dig_of_lt (k := 5) (by omega) (by omega)) (by omega)
theorem nice12 {A : List (List Rat)} (hl : A.length ≤ 4) (hr : ∀ r ∈ A, r.length = A.length) (ht : ∀ r ∈ A, ∀ q ∈ r, Tw q) (hs : SymM A) : Nice A 12 :=
  ⟨⟨by omega, hr, fun r hr q hq => (ht r hr q hq).tx⟩, hs, hl, by omega, fun r hr q hq => (ht r hr q hq).sz, 12, 100, by omega, light12 ht⟩
theorem niceX12 {x : Rat} (h : Tw x) (n : Nat) : NiceX x n 12 := by
  refine ⟨h.tx, h.sz, 12, 100, by omega, light12 fun r hr q hq => ?_⟩
  simp only [List.map_replicate] at hr
  have := List.eq_of_mem_replicate hr
  subst this
  simp at hq; subst hq; exact h
theorem ratT_two : ratT 2 = [50] := by
  have : ratT ((2 : Int) : Rat) = Lib.itoa 2 := ratT_int 2
  rw [show ((2 : Int) : Rat) = 2 from by decide] at this
  rw [this, itoa_nonneg (by omega)]; exact Lib.decDigits_one (by omega)
theorem ratT_three : ratT 3 = [51] := by
  have : ratT ((3 : Int) : Rat) = Lib.itoa 3 := ratT_int 3
  rw [show ((3 : Int) : Rat) = 3 from by decide] at this
  rw [this, itoa_nonneg (by omega)]; exact Lib.decDigits_one (by omega)
theorem ratT_m4 : ratT (-4) = [45, 52] := by
  have : ratT ((-4 : Int) : Rat) = Lib.itoa (-4) := ratT_int (-4)
  rw [show ((-4 : Int) : Rat) = -4 from by decide] at this
  rw [this, itoa_signed, show decide ((-4 : Int) < 0) = true from rfl, show (-4 : Int).natAbs = 4 from rfl, Lib.decDigits_one (by omega)]; rfl
theorem mat2 {u : PH} {g g1 g2 : Nat} {t1 t2 : List (List UInt8)} (h : ElsP u g 0 1 [.slice (some ⟨g1, 0, none⟩) 2 2, .slice (some ⟨g2, 0, none⟩) 2 2]) (h1 : ElsP u g1 0 1 (strsV t1)) (h2 : ElsP u g2 0 1 (strsV t2)) (e1 : t1.length = 2) (e2 : t2.length = 2) :
    MatP u (.slice (some ⟨g, 0, none⟩) 2 2) [t1, t2] := by
  refine ⟨_, ⟨_, 2, rfl, Nat.le_refl _, fun j e hj => ⟨g, 0, rfl, h j e hj⟩⟩, rfl, fun j r hj => ?_⟩
  match j, hj with
  | 0, hj =>
    simp at hj; subst hj
    exact ⟨some ⟨g1, 0, none⟩, 2, by rw [e1]; rfl, ⟨_, 2, by rw [strsV_length], by rw [strsV_length, e1]; exact Nat.le_refl _, fun j e hj => ⟨g1, 0, rfl, h1 j e hj⟩⟩⟩
  | 1, hj =>
    simp at hj; subst hj
    exact ⟨some ⟨g2, 0, none⟩, 2, by rw [e2]; rfl, ⟨_, 2, by rw [strsV_length], by rw [strsV_length, e2]; exact Nat.le_refl _, fun j e hj => ⟨g2, 0, rfl, h2 j e hj⟩⟩⟩
def A1 : List (List Rat) := [[2, 1], [1, 2]]
def A2 : List (List Rat) := [[1, 0], [0, 1]]
def twB (q : Rat) : Bool := decide (q.den ∣ 12) && decide (q.num.natAbs ≤ 1000)
theorem twB_spec {q : Rat} (h : twB q = true) : Tw q := by
  simp only [twB, Bool.and_eq_true, decide_eq_true_eq] at h
  exact ⟨h.1, h.2⟩
theorem sym2 (a b c : Rat) : SymM [[a, b], [b, c]] := by
  intro i k hi hk h1 h2
  match i, k, hi, hk with
  | 0, 0, _, _ => rfl
  | 0, 1, _, _ => rfl
  | 1, 0, _, _ => rfl
  | 1, 1, _, _ => rfl
theorem niceA1 : Nice A1 12 := by
  refine nice12 (by decide) (by decide) (fun r hr q hq => ?_) (sym2 2 1 2)
  have h : A1.all (fun r => r.all twB) = true := by decide +kernel
  rw [List.all_eq_true] at h
  have := h r hr
  rw [List.all_eq_true] at this
  exact twB_spec (this q hq)
theorem niceA2 : Nice A2 12 := by
  refine nice12 (by decide) (by decide) (fun r hr q hq => ?_) (sym2 1 0 1)
  have h : A2.all (fun r => r.all twB) = true := by decide +kernel
  rw [List.all_eq_true] at h
  have := h r hr
  rw [List.all_eq_true] at this
  exact twB_spec (this q hq)
theorem char_A1 : charL A1 = [3, -4, 1] := by decide +kernel
theorem txA1 : ∀ q ∈ charL A1, Tx q := (all_small (p := charL A1) (by decide +kernel)).1
theorem txA2 : ∀ q ∈ charL A2, Tx q := (all_small (p := charL A2) (by decide +kernel)).1
theorem sz_mil {p : List Rat} (h : p.all smallB = true) : SzL p 1000000 := (all_small h).2.mono (by omega)
theorem simA1 : SimP 5 (charL A1) := by
  have e1 : derL (charL A1) = [-4, 2] := by decide +kernel
  have e2 : remL (charL A1) [-4, 2] = [-1] := by decide +kernel
  have e3 : remL [-4, 2] [-1] = [] := by decide +kernel
  have e4 : simGo 5 (charL A1) (derL (charL A1)) = [-1] := by decide +kernel
  refine ⟨?_, by decide +kernel, by decide +kernel, sz_mil (by decide +kernel), by rw [e4]; simp, by rw [e4]; simp, by rw [e4]; exact sz_mil (by decide +kernel), by rw [e4]; decide +kernel⟩
  rw [e1]
  refine ⟨by decide +kernel, by decide +kernel, by decide +kernel, by decide, sz_mil (by decide +kernel), sz_mil (by decide +kernel), ?_⟩
  rw [e2]
  refine ⟨by decide +kernel, by simp, by decide, by decide, sz_mil (by decide +kernel), sz_mil (by decide +kernel), ?_⟩
  rw [e3]; exact trivial
theorem simA2 : SimP 5 (charL A2) := by
  have e1 : derL (charL A2) = [-2, 2] := by decide +kernel
  have e2 : remL (charL A2) [-2, 2] = [] := by decide +kernel
  have e4 : simGo 5 (charL A2) (derL (charL A2)) = [-2, 2] := by decide +kernel
  refine ⟨?_, by decide +kernel, by decide +kernel, sz_mil (by decide +kernel), by rw [e4]; simp, by rw [e4]; simp, by rw [e4]; exact sz_mil (by decide +kernel), by rw [e4]; decide +kernel⟩
  rw [e1]
  refine ⟨by decide +kernel, by decide +kernel, by decide +kernel, by decide, sz_mil (by decide +kernel), sz_mil (by decide +kernel), ?_⟩
  rw [e2]; exact trivial
def res1 : List (Rat × Rat × Int) := [(0, 5 / 4, 1), (5 / 2, 15 / 4, 1)]
def res2 : List (Rat × Rat × Int) := [(-2, 2, 2)]
theorem specA1 {u : PH} {v : Value} (ht : TabU u) (hm : MatP u v (matT A1)) : Fn0 Tryz.prog 24 [v, .int .i64 ((3 : Nat) : Int)] u fun v' u' => ∃ r, v' = .tuple #[r, .int .i64 0] ∧ SpecP u' r res1 :=
  spectrum0 (fS := 5) (F := 10) (fu := 100) ht hm niceA1 txA1 (by decide) (by omega) simA1 (by decide +kernel) (by decide +kernel) (by decide +kernel) ((all_small (p := simpL 5 (charL A1)) (by decide +kernel)).2.mono (by omega)) (by decide +kernel) (by decide +kernel) (by omega) (by decide +kernel)
theorem specA2 {u : PH} {v : Value} (ht : TabU u) (hm : MatP u v (matT A2)) : Fn0 Tryz.prog 24 [v, .int .i64 ((0 : Nat) : Int)] u fun v' u' => ∃ r, v' = .tuple #[r, .int .i64 0] ∧ SpecP u' r res2 :=
  spectrum0 (fS := 5) (F := 10) (fu := 100) ht hm niceA2 txA2 (by decide) (by omega) simA2 (by decide +kernel) (by decide +kernel) (by decide +kernel) ((all_small (p := simpL 5 (charL A2)) (by decide +kernel)).2.mono (by omega)) (by decide +kernel) (by decide +kernel) (by omega) (by decide +kernel)
theorem checkA1 {u : PH} {v r : Value} (ht : TabU u) (hm : MatP u v (matT A1)) (hr : SpecP u r res1) : Fn0 Tryz.prog 25 [v, r] u fun v' _ => v' = .bool true := by
  refine check0 ht hm niceA1 txA1 (by decide) (fun x hx => ?_) hr (by decide) (by decide +kernel)
  have h : res1.all (fun x => twB x.1 && twB x.2.1) = true := by decide +kernel
  rw [List.all_eq_true] at h
  have := h x hx
  rw [Bool.and_eq_true] at this
  exact ⟨niceX12 (twB_spec this.1) _, niceX12 (twB_spec this.2) _⟩
theorem SpecP.mono {u u' : PH} {v : Value} {res : List (Rat × Rat × Int)} (h : SpecP u v res) (hl : PH.le u u') : SpecP u' v res := by
  obtain ⟨a, c, a', c', h1, h2, h3⟩ := h; exact ⟨a, c, a', c', h1, h2.mono hl, h3.mono hl⟩
set_option maxHeartbeats 4000000 in
theorem sane0 {u : PH} (ht : TabU u) : Fn0 Tryz.prog 8 [] u fun v _ => v = .bool true := by
  refine Fn0.of Tryz.func8 (by kernel_rfl) (by kernel_rfl) ?_
  refine G.buildU 34 1 16 (.string (mkS [])) (strsV [[50], [49]]) (by kernel_rfl) (strsV_ok _) rfl (by omega) (by simp [strsV]) (by simp [strsV]) ?_
  intro g1 u1 l1 e1
  refine G.buildU 34 1 16 (.string (mkS [])) (strsV [[49], [50]]) (by kernel_rfl) (strsV_ok _) rfl (by omega) (by simp [strsV]) (by simp [strsV]) ?_
  intro g2 u2 l2 e2
  refine G.buildU 27 1 24 (.slice none 0 0) [.slice (some ⟨g1, 0, none⟩) 2 2, .slice (some ⟨g2, 0, none⟩) 2 2] (by kernel_rfl) (rows_ok (by intro e he; simp at he; rcases he with rfl | rfl <;> exact ⟨_, _, _, rfl⟩)) rfl (by omega) (by simp) (by simp) ?_
  intro g3 u3 l3 e3
  have hm : MatP u3 (.slice (some ⟨g3, 0, none⟩) 2 2) (matT A1) := by
    have h := mat2 e3 (e1.mono (l2.trans l3)) (e2.mono l3) rfl rfl
    have : matT A1 = [[[50], [49]], [[49], [50]]] := by simp [matT, A1, ratT_two, ratT_one]
    rw [this]; exact h
  have hl3 : PH.le u u3 := (l1.trans l2).trans l3
  refine G.call0 _ _ (by kernel_rfl) Tryz.call16 (polynomial0 (ht.mono hl3) hm niceA1 txA1) ?_
  rintro v4 u4 l4 ⟨r4, rfl, k4⟩
  have k4' := k4
  obtain ⟨a4, c4, rfl⟩ := ListP.opn k4
  have e4 : (strsV (List.map ratT (charL A1))).length = 3 := by rw [strsV_length, List.length_map, char_A1]; rfl
  rw [e4] at k4' ⊢
  have h3 : Tw 3 := twB_spec (by decide +kernel)
  have hb := belowM0 (x := 3) (ht.mono (hl3.trans l4)) (hm.mono l4) niceA1 (niceX12 h3 _) (by decide)
  rw [ratT_three] at hb
  refine G.call0 _ _ (by kernel_rfl) Tryz.call15 hb ?_
  rintro v5 u5 l5 rfl
  have hl5 : PH.le u u5 := (hl3.trans l4).trans l5
  refine G.call0 _ _ (by kernel_rfl) Tryz.call24 (specA1 (ht.mono hl5) (hm.mono (l4.trans l5))) ?_
  rintro v6 u6 l6 ⟨r6, rfl, k6⟩
  have k6' := k6
  obtain ⟨a6, c6, a6', c6', rfl, _, _⟩ := k6
  refine G.buildU 34 1 16 (.string (mkS [])) (strsV [[49], [48]]) (by kernel_rfl) (strsV_ok _) rfl (by omega) (by simp [strsV]) (by simp [strsV]) ?_
  intro g7 u7 l7 e7
  refine G.buildU 34 1 16 (.string (mkS [])) (strsV [[48], [49]]) (by kernel_rfl) (strsV_ok _) rfl (by omega) (by simp [strsV]) (by simp [strsV]) ?_
  intro g8 u8 l8 e8
  refine G.buildU 27 1 24 (.slice none 0 0) [.slice (some ⟨g7, 0, none⟩) 2 2, .slice (some ⟨g8, 0, none⟩) 2 2] (by kernel_rfl) (rows_ok (by intro e he; simp at he; rcases he with rfl | rfl <;> exact ⟨_, _, _, rfl⟩)) rfl (by omega) (by simp) (by simp) ?_
  intro g9 u9 l9 e9
  have hm2 : MatP u9 (.slice (some ⟨g9, 0, none⟩) 2 2) (matT A2) := by
    have h := mat2 e9 (e7.mono (l8.trans l9)) (e8.mono l9) rfl rfl
    have : matT A2 = [[[49], [48]], [[48], [49]]] := by simp [matT, A2, ratT_zero, ratT_one]
    rw [this]; exact h
  have hl9 : PH.le u u9 := ((hl5.trans l6).trans l7).trans (l8.trans l9)
  refine G.call0 _ _ (by kernel_rfl) Tryz.call24 (specA2 (ht.mono hl9) hm2) ?_
  rintro v10 u10 l10 ⟨r10, rfl, k10⟩
  obtain ⟨a10, c10, a10', c10', rfl, _, kM⟩ := k10
  refine G.eqlT 0 0 (by kernel_rfl) rfl ?_
  refine G.buildU 34 1 16 (.string (mkS [])) (strsV [[51], [45, 52], [49]]) (by kernel_rfl) (strsV_ok _) rfl (by omega) (by simp [strsV]) (by simp [strsV]) ?_
  intro g11 u11 l11 e11
  have hS : StrsP u11 (.slice (some ⟨g11, 0, none⟩) 3 3) [[51], [45, 52], [49]] := ⟨_, 3, rfl, Nat.le_refl _, fun j e hj => ⟨g11, 0, rfl, e11 j e hj⟩⟩
  have ht4 : ([3, -4, 1] : List Rat).map ratT = [[51], [45, 52], [49]] := by simp [ratT_three, ratT_m4, ratT_one]
  rw [char_A1, ht4] at k4'
  refine G.call0 _ _ (by kernel_rfl) Tryz.call35 (refSame0 (ListP.mono k4' ((((((l5.trans l6).trans l7).trans l8).trans l9).trans l10).trans l11)) hS (by simp) (by simp)) ?_
  rintro v12 u12 l12 rfl
  refine G.eqlT 0 0 (by kernel_rfl) rfl ?_
  refine G.eqlT (lessL (charL A1) 3) 1 (by kernel_rfl) (by decide +kernel) ?_
  refine G.eqlT (equalL (charL A1) 3 : Int) 1 (by kernel_rfl) (by decide +kernel) ?_
  refine G.eqlT 0 0 (by kernel_rfl) rfl ?_
  refine G.eqlT ((res1.length : Nat) : Int) 2 (by kernel_rfl) rfl ?_
  have hl12 : PH.le u6 u12 := ((((l7.trans l8).trans l9).trans l10).trans l11).trans l12
  refine G.call0 _ _ (by kernel_rfl) Tryz.call25 (checkA1 (ht.mono ((hl5.trans l6).trans hl12)) (hm.mono (((l4.trans l5).trans l6).trans hl12)) (SpecP.mono k6' hl12)) ?_
  rintro v13 u13 l13 rfl
  refine G.eqlT 0 0 (by kernel_rfl) rfl ?_
  refine G.eqlT ((res2.length : Nat) : Int) 1 (by kernel_rfl) rfl ?_
  obtain ⟨b14, o14, rfl, e14⟩ := ListP.at' (ListP.mono kM ((l11.trans l12).trans l13)) (j := 0) (e := .int .i64 2) rfl
  refine G.addr b14 o14 1 c10' 0 1 (by kernel_rfl) (by omega) ?_
  refine G.loadU none b14 (o14 + 0 * 1) (.int .i64 2) (by kernel_rfl) (by kernel_rfl) e14 ?_
  refine G.eqlT 2 2 (by kernel_rfl) rfl ?_
  exact G.ret (.bool true) (by kernel_rfl) ⟨rfl, rfl⟩
end Go.Proofs.YtldokelpolbnnaaGreatDoor
end
section
set_option linter.unusedSectionVars false
set_option linter.unusedVariables false
namespace Go.Proofs.YtldokelpolbnnaaGreatDoor
open Go.RowKit
def T12 (q : Rat) (N : Nat) : Prop := ∃ k : Int, q = Rat.divInt k 12 ∧ k.natAbs ≤ N
theorem T12.tw {q : Rat} {N : Nat} (h : T12 q N) (hN : N ≤ 1000) : Tw q := by
  obtain ⟨k, rfl, hk⟩ := h
  obtain ⟨e1, e2, e3⟩ := new_pos (y := k) (z := 12) (by omega)
  have hg : Nat.gcd k.natAbs 12 ∣ 12 := Nat.gcd_dvd_right _ _
  have hg0 : 0 < Nat.gcd k.natAbs 12 := Nat.gcd_pos_of_pos_right _ (by omega)
  have e2' : (Rat.divInt k 12).den = 12 / Nat.gcd k.natAbs 12 := by
    have h1 : ((Rat.divInt k 12).den : Int) = ((12 / Nat.gcd k.natAbs 12 : Nat) : Int) := by
      rw [e2, show (12 : Int).natAbs = 12 from rfl, Int.tdiv_eq_ediv_of_nonneg (by omega)]; rfl
    exact Int.ofNat.inj h1
  refine ⟨?_, ?_⟩
  · rw [e2']; exact Nat.div_dvd_of_dvd hg
  · rw [e1, Int.natAbs_tdiv]
    refine Nat.le_trans (Nat.div_le_self _ _) (by omega)
theorem SmR.t12 {q : Rat} (h : SmR q) : T12 q 108 := by
  obtain ⟨c, hc⟩ := h.den
  refine ⟨q.num * (c : Int), ?_, ?_⟩
  · have hd := q.den_pos
    have hc0 : c ≠ 0 := fun e => by rw [e] at hc; simp at hc
    have h1 : (12 : Int) = (q.den : Int) * (c : Int) := by rw [← Int.natCast_mul, ← hc]; rfl
    rw [h1, Rat.divInt_mul_right (by omega), Rat.num_divInt_den]
  · have h1 := h.num
    have h2 : c ≤ 12 := by
      have hd := q.den_pos
      have : 1 * c ≤ q.den * c := Nat.mul_le_mul_right _ hd
      omega
    rw [Int.natAbs_mul, Int.natAbs_natCast]
    have : q.num.natAbs * c ≤ 9 * 12 := Nat.mul_le_mul h1 h2
    omega
theorem SmR.tw {q : Rat} (h : SmR q) : Tw q := h.t12.tw (by omega)
theorem thin_sq {B : List (List Rat)} {n : Nat} (hl : B.length = n) (h : ThinOK B n) : SqN n B := ⟨hl, fun r hr => by
  obtain ⟨i, hi, rfl⟩ := List.mem_iff_getElem.1 hr
  rw [← gM_at hi]; exact (h i hi).1⟩
theorem niceThin {B : List (List Rat)} {n : Nat} (hl : B.length = n) (h4 : n ≤ 4) (h : ThinOK B n) (hs : ∀ i j, j < i → i < n → gR (gM B i) j = gR (gM B j) i) : Nice B 12 := by
  subst hl
  refine nice12 h4 (thin_sq rfl h).2 (fun r hr q hq => ?_) (fun i k hi hk h1 h2 => ?_)
  · obtain ⟨i, hi, rfl⟩ := List.mem_iff_getElem.1 hr
    rw [← gM_at hi] at hq
    exact ((h i hi).2 q hq).smR.tw
  · have e : ∀ i k (hi : i < B.length) (h1 : k < B[i].length), B[i][k] = gR (gM B i) k := fun i k hi h1 => by rw [← gR_at h1, gM_at hi]
    rw [e i k hi h1, e k i hk h2]
    rcases Nat.lt_trichotomy i k with hlt | rfl | hlt
    · exact (hs k i hlt hk).symm
    · rfl
    · exact hs i k hlt hi
end Go.Proofs.YtldokelpolbnnaaGreatDoor
end
section
set_option linter.unusedVariables false
set_option linter.unusedSimpArgs false
namespace Go.Proofs.YtldokelpolbnnaaGreatDoor
def dtm : Nat → (Nat → Nat → Rat) → Rat
  | 0, _ => 1
  | 1, e => e 0 0
  | 2, e => e 0 0 * e 1 1 - e 0 1 * e 1 0
  | 3, e => e 0 0 * (e 1 1 * e 2 2 - e 1 2 * e 2 1) - e 0 1 * (e 1 0 * e 2 2 - e 1 2 * e 2 0) + e 0 2 * (e 1 0 * e 2 1 - e 1 1 * e 2 0)
  | 4, e =>
    e 0 0 * (e 1 1 * (e 2 2 * e 3 3 - e 2 3 * e 3 2) - e 1 2 * (e 2 1 * e 3 3 - e 2 3 * e 3 1) + e 1 3 * (e 2 1 * e 3 2 - e 2 2 * e 3 1))
    - e 0 1 * (e 1 0 * (e 2 2 * e 3 3 - e 2 3 * e 3 2) - e 1 2 * (e 2 0 * e 3 3 - e 2 3 * e 3 0) + e 1 3 * (e 2 0 * e 3 2 - e 2 2 * e 3 0))
    + e 0 2 * (e 1 0 * (e 2 1 * e 3 3 - e 2 3 * e 3 1) - e 1 1 * (e 2 0 * e 3 3 - e 2 3 * e 3 0) + e 1 3 * (e 2 0 * e 3 1 - e 2 1 * e 3 0))
    - e 0 3 * (e 1 0 * (e 2 1 * e 3 2 - e 2 2 * e 3 1) - e 1 1 * (e 2 0 * e 3 2 - e 2 2 * e 3 0) + e 1 2 * (e 2 0 * e 3 1 - e 2 1 * e 3 0))
  | _, _ => 0
theorem diag4 (t a b c d e f g h i j k l m n o p : Rat) : diagGo t 4 0 [[a, b, c, d], [e, f, g, h], [i, j, k, l], [m, n, o, p]] = [[a + t, b, c, d], [e, f + t, g, h], [i, j, k + t, l], [m, n, o, p + t]] := by
  simp [diagGo, gR, gM]
theorem char4_1 (a b c d e f g h i j : Rat) : charL [[a, b, c, d], [b, e, f, g], [c, f, h, i], [d, g, i, j]] = charGo [[a, b, c, d], [b, e, f, g], [c, f, h, i], [d, g, i, j]] 4 3 2 [[a, b, c, d], [b, e, f, g], [c, f, h, i], [d, g, i, j]] [(-a - e - h - j), 1] := by
  show charGo _ 4 4 1 [[0, 0, 0, 0], [0, 0, 0, 0], [0, 0, 0, 0], [0, 0, 0, 0]] [1] = _
  rw [charGo, show gR [1] 0 = 1 from rfl, diag4]
  congr 1 <;> simp [nextGo, rowGo, sumGo, gR, gM] <;> grind
theorem char4_2 (a b c d e f g h i j : Rat) : charGo [[a, b, c, d], [b, e, f, g], [c, f, h, i], [d, g, i, j]] 4 3 2 [[a, b, c, d], [b, e, f, g], [c, f, h, i], [d, g, i, j]] [(-a - e - h - j), 1] = charGo [[a, b, c, d], [b, e, f, g], [c, f, h, i], [d, g, i, j]] 4 2 3 [[(a * a + b * b + c * c + d * d + (-a - e - h - j) * a), (a * b + b * e + c * f + d * g + (-a - e - h - j) * b), (a * c + b * f + c * h + d * i + (-a - e - h - j) * c), (a * d + b * g + c * i + d * j + (-a - e - h - j) * d)], [(b * a + e * b + f * c + g * d + (-a - e - h - j) * b), (b * b + e * e + f * f + g * g + (-a - e - h - j) * e), (b * c + e * f + f * h + g * i + (-a - e - h - j) * f), (b * d + e * g + f * i + g * j + (-a - e - h - j) * g)], [(c * a + f * b + h * c + i * d + (-a - e - h - j) * c), (c * b + f * e + h * f + i * g + (-a - e - h - j) * f), (c * c + f * f + h * h + i * i + (-a - e - h - j) * h), (c * d + f * g + h * i + i * j + (-a - e - h - j) * i)], [(d * a + g * b + i * c + j * d + (-a - e - h - j) * d), (d * b + g * e + i * f + j * g + (-a - e - h - j) * g), (d * c + g * f + i * h + j * i + (-a - e - h - j) * i), (d * d + g * g + i * i + j * j + (-a - e - h - j) * j)]] [(a * e - b * b + a * h - c * c + a * j - d * d + e * h - f * f + e * j - g * g + h * j - i * i), (-a - e - h - j), 1] := by
  rw [charGo, show gR [(-a - e - h - j), 1] 0 = (-a - e - h - j) from rfl, diag4]
  congr 1 <;> simp [nextGo, rowGo, sumGo, gR, gM] <;> grind
theorem char4_3 (a b c d e f g h i j : Rat) : charGo [[a, b, c, d], [b, e, f, g], [c, f, h, i], [d, g, i, j]] 4 2 3 [[(a * a + b * b + c * c + d * d + (-a - e - h - j) * a), (a * b + b * e + c * f + d * g + (-a - e - h - j) * b), (a * c + b * f + c * h + d * i + (-a - e - h - j) * c), (a * d + b * g + c * i + d * j + (-a - e - h - j) * d)], [(b * a + e * b + f * c + g * d + (-a - e - h - j) * b), (b * b + e * e + f * f + g * g + (-a - e - h - j) * e), (b * c + e * f + f * h + g * i + (-a - e - h - j) * f), (b * d + e * g + f * i + g * j + (-a - e - h - j) * g)], [(c * a + f * b + h * c + i * d + (-a - e - h - j) * c), (c * b + f * e + h * f + i * g + (-a - e - h - j) * f), (c * c + f * f + h * h + i * i + (-a - e - h - j) * h), (c * d + f * g + h * i + i * j + (-a - e - h - j) * i)], [(d * a + g * b + i * c + j * d + (-a - e - h - j) * d), (d * b + g * e + i * f + j * g + (-a - e - h - j) * g), (d * c + g * f + i * h + j * i + (-a - e - h - j) * i), (d * d + g * g + i * i + j * j + (-a - e - h - j) * j)]] [(a * e - b * b + a * h - c * c + a * j - d * d + e * h - f * f + e * j - g * g + h * j - i * i), (-a - e - h - j), 1] = charGo [[a, b, c, d], [b, e, f, g], [c, f, h, i], [d, g, i, j]] 4 1 4 [[(-(e * (h * j - i * i) - f * (f * j - i * g) + g * (f * i - h * g)) - (- (e * (h * j - i * i) - f * (f * j - i * g) + g * (f * i - h * g)) - (a * (h * j - i * i) - c * (c * j - i * d) + d * (c * i - h * d)) - (a * (e * j - g * g) - b * (b * j - g * d) + d * (b * g - e * d)) - (a * (e * h - f * f) - b * (b * h - f * c) + c * (b * f - e * c)))), (b * (h * j - i * i) - c * (f * j - i * g) + d * (f * i - h * g)), -(b * (f * j - g * i) - c * (e * j - g * g) + d * (e * i - f * g)), (b * (f * i - g * h) - c * (e * i - g * f) + d * (e * h - f * f))], [(b * (h * j - i * i) - f * (c * j - i * d) + g * (c * i - h * d)), (-(a * (h * j - i * i) - c * (c * j - i * d) + d * (c * i - h * d)) - (- (e * (h * j - i * i) - f * (f * j - i * g) + g * (f * i - h * g)) - (a * (h * j - i * i) - c * (c * j - i * d) + d * (c * i - h * d)) - (a * (e * j - g * g) - b * (b * j - g * d) + d * (b * g - e * d)) - (a * (e * h - f * f) - b * (b * h - f * c) + c * (b * f - e * c)))), (a * (f * j - g * i) - c * (b * j - g * d) + d * (b * i - f * d)), -(a * (f * i - g * h) - c * (b * i - g * c) + d * (b * h - f * c))], [-(b * (f * j - i * g) - e * (c * j - i * d) + g * (c * g - f * d)), (a * (f * j - i * g) - b * (c * j - i * d) + d * (c * g - f * d)), (-(a * (e * j - g * g) - b * (b * j - g * d) + d * (b * g - e * d)) - (- (e * (h * j - i * i) - f * (f * j - i * g) + g * (f * i - h * g)) - (a * (h * j - i * i) - c * (c * j - i * d) + d * (c * i - h * d)) - (a * (e * j - g * g) - b * (b * j - g * d) + d * (b * g - e * d)) - (a * (e * h - f * f) - b * (b * h - f * c) + c * (b * f - e * c)))), (a * (e * i - g * f) - b * (b * i - g * c) + d * (b * f - e * c))], [(b * (f * i - h * g) - e * (c * i - h * d) + f * (c * g - f * d)), -(a * (f * i - h * g) - b * (c * i - h * d) + c * (c * g - f * d)), (a * (e * i - f * g) - b * (b * i - f * d) + c * (b * g - e * d)), (-(a * (e * h - f * f) - b * (b * h - f * c) + c * (b * f - e * c)) - (- (e * (h * j - i * i) - f * (f * j - i * g) + g * (f * i - h * g)) - (a * (h * j - i * i) - c * (c * j - i * d) + d * (c * i - h * d)) - (a * (e * j - g * g) - b * (b * j - g * d) + d * (b * g - e * d)) - (a * (e * h - f * f) - b * (b * h - f * c) + c * (b * f - e * c))))]] [(- (e * (h * j - i * i) - f * (f * j - i * g) + g * (f * i - h * g)) - (a * (h * j - i * i) - c * (c * j - i * d) + d * (c * i - h * d)) - (a * (e * j - g * g) - b * (b * j - g * d) + d * (b * g - e * d)) - (a * (e * h - f * f) - b * (b * h - f * c) + c * (b * f - e * c))), (a * e - b * b + a * h - c * c + a * j - d * d + e * h - f * f + e * j - g * g + h * j - i * i), (-a - e - h - j), 1] := by
  rw [charGo, show gR [(a * e - b * b + a * h - c * c + a * j - d * d + e * h - f * f + e * j - g * g + h * j - i * i), (-a - e - h - j), 1] 0 = (a * e - b * b + a * h - c * c + a * j - d * d + e * h - f * f + e * j - g * g + h * j - i * i) from rfl, diag4]
  congr 1 <;> simp [nextGo, rowGo, sumGo, gR, gM] <;> grind
theorem char4_4 (a b c d e f g h i j : Rat) : charGo [[a, b, c, d], [b, e, f, g], [c, f, h, i], [d, g, i, j]] 4 1 4 [[(-(e * (h * j - i * i) - f * (f * j - i * g) + g * (f * i - h * g)) - (- (e * (h * j - i * i) - f * (f * j - i * g) + g * (f * i - h * g)) - (a * (h * j - i * i) - c * (c * j - i * d) + d * (c * i - h * d)) - (a * (e * j - g * g) - b * (b * j - g * d) + d * (b * g - e * d)) - (a * (e * h - f * f) - b * (b * h - f * c) + c * (b * f - e * c)))), (b * (h * j - i * i) - c * (f * j - i * g) + d * (f * i - h * g)), -(b * (f * j - g * i) - c * (e * j - g * g) + d * (e * i - f * g)), (b * (f * i - g * h) - c * (e * i - g * f) + d * (e * h - f * f))], [(b * (h * j - i * i) - f * (c * j - i * d) + g * (c * i - h * d)), (-(a * (h * j - i * i) - c * (c * j - i * d) + d * (c * i - h * d)) - (- (e * (h * j - i * i) - f * (f * j - i * g) + g * (f * i - h * g)) - (a * (h * j - i * i) - c * (c * j - i * d) + d * (c * i - h * d)) - (a * (e * j - g * g) - b * (b * j - g * d) + d * (b * g - e * d)) - (a * (e * h - f * f) - b * (b * h - f * c) + c * (b * f - e * c)))), (a * (f * j - g * i) - c * (b * j - g * d) + d * (b * i - f * d)), -(a * (f * i - g * h) - c * (b * i - g * c) + d * (b * h - f * c))], [-(b * (f * j - i * g) - e * (c * j - i * d) + g * (c * g - f * d)), (a * (f * j - i * g) - b * (c * j - i * d) + d * (c * g - f * d)), (-(a * (e * j - g * g) - b * (b * j - g * d) + d * (b * g - e * d)) - (- (e * (h * j - i * i) - f * (f * j - i * g) + g * (f * i - h * g)) - (a * (h * j - i * i) - c * (c * j - i * d) + d * (c * i - h * d)) - (a * (e * j - g * g) - b * (b * j - g * d) + d * (b * g - e * d)) - (a * (e * h - f * f) - b * (b * h - f * c) + c * (b * f - e * c)))), (a * (e * i - g * f) - b * (b * i - g * c) + d * (b * f - e * c))], [(b * (f * i - h * g) - e * (c * i - h * d) + f * (c * g - f * d)), -(a * (f * i - h * g) - b * (c * i - h * d) + c * (c * g - f * d)), (a * (e * i - f * g) - b * (b * i - f * d) + c * (b * g - e * d)), (-(a * (e * h - f * f) - b * (b * h - f * c) + c * (b * f - e * c)) - (- (e * (h * j - i * i) - f * (f * j - i * g) + g * (f * i - h * g)) - (a * (h * j - i * i) - c * (c * j - i * d) + d * (c * i - h * d)) - (a * (e * j - g * g) - b * (b * j - g * d) + d * (b * g - e * d)) - (a * (e * h - f * f) - b * (b * h - f * c) + c * (b * f - e * c))))]] [(- (e * (h * j - i * i) - f * (f * j - i * g) + g * (f * i - h * g)) - (a * (h * j - i * i) - c * (c * j - i * d) + d * (c * i - h * d)) - (a * (e * j - g * g) - b * (b * j - g * d) + d * (b * g - e * d)) - (a * (e * h - f * f) - b * (b * h - f * c) + c * (b * f - e * c))), (a * e - b * b + a * h - c * c + a * j - d * d + e * h - f * f + e * j - g * g + h * j - i * i), (-a - e - h - j), 1] = [dtm 4 (fun x y => gR (gM [[a, b, c, d], [b, e, f, g], [c, f, h, i], [d, g, i, j]] x) y), (- (e * (h * j - i * i) - f * (f * j - i * g) + g * (f * i - h * g)) - (a * (h * j - i * i) - c * (c * j - i * d) + d * (c * i - h * d)) - (a * (e * j - g * g) - b * (b * j - g * d) + d * (b * g - e * d)) - (a * (e * h - f * f) - b * (b * h - f * c) + c * (b * f - e * c))), (a * e - b * b + a * h - c * c + a * j - d * d + e * h - f * f + e * j - g * g + h * j - i * i), (-a - e - h - j), 1] := by
  rw [charGo, charGo, show gR [(- (e * (h * j - i * i) - f * (f * j - i * g) + g * (f * i - h * g)) - (a * (h * j - i * i) - c * (c * j - i * d) + d * (c * i - h * d)) - (a * (e * j - g * g) - b * (b * j - g * d) + d * (b * g - e * d)) - (a * (e * h - f * f) - b * (b * h - f * c) + c * (b * f - e * c))), (a * e - b * b + a * h - c * c + a * j - d * d + e * h - f * f + e * j - g * g + h * j - i * i), (-a - e - h - j), 1] 0 = (- (e * (h * j - i * i) - f * (f * j - i * g) + g * (f * i - h * g)) - (a * (h * j - i * i) - c * (c * j - i * d) + d * (c * i - h * d)) - (a * (e * j - g * g) - b * (b * j - g * d) + d * (b * g - e * d)) - (a * (e * h - f * f) - b * (b * h - f * c) + c * (b * f - e * c))) from rfl, diag4]
  congr 1
  simp [nextGo, rowGo, sumGo, gR, gM, dtm]; grind
def en (X : List (List Rat)) (i j : Nat) : Rat := gR (gM X i) j
end Go.Proofs.YtldokelpolbnnaaGreatDoor
end
