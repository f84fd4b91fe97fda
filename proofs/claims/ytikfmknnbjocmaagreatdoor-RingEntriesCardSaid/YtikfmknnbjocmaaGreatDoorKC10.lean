/- Joined out of parts of one proof by a program: contracts of the functions that the statement reaches, and the plain facts behind them. -/
import Derived.Test.YtikfmknnbjocmaaGreatDoorKC09
set_option linter.unusedVariables false
set_option linter.unusedSimpArgs false
set_option linter.unusedSectionVars false
section
set_option linter.unusedSectionVars false
set_option linter.unusedVariables false
namespace Go.Proofs.YtikfmknnbjocmaaGreatDoor
open Go.RowKit Go.MapKept
section
variable {P : Program}
theorem threeList {A B : Type} {h : A → B} {fs : List A} {x y z : B} (hf : fs.map h = [x, y, z]) : ∃ f g k, fs = [f, g, k] := by
  have h0 := congrArg List.length hf
  simp only [List.length_map, List.length_cons, List.length_nil] at h0
  match fs, h0 with
  | [f, g, k], _ => exact ⟨f, g, k, rfl⟩
theorem run_eq_leaf {t : TypeId} (h : P.underlying t = some .string) (d : Nat) (s : List UInt8) (w : World) : (Op.equalIn (d + 1) t (.string (mkS s)) (.string (mkS s))).run P w = .ok true w := by
  rw [run_equalIn_string w d _ _ _ h, mkS_beq]; simp
theorem run_eq_tm {t tp ti ts tr : TypeId} {k : IntKind} (hf : (P.fieldsOf t).toList.map fldOf = [(true, tp, 0), (true, tr, 2)]) (ht : P.underlying t = some (.struct (P.fieldsOf t))) (hp : P.stoodInHeld t = false)
    (hf' : (P.fieldsOf tp).toList.map fldOf = [(true, ti, 0), (true, ts, 1)]) (ht' : P.underlying tp = some (.struct (P.fieldsOf tp))) (hp' : P.stoodInHeld tp = false) (hsz : szB P tp = some 2) (hi : P.underlying ti = some (.int k)) (hs : P.underlying ts = some .string) (hr : P.underlying tr = some .string) (d : Nat) (x : Par × Rat) (w : World) :
    (Op.equalIn (d + 3) t (termV x) (termV x)).run P w = .ok true w := by
  have hag : aggB P tp = some true := by unfold aggB; rw [ht']
  unfold termV
  rw [run_equalIn_struct w (d + 2) t _ _ ht hp]
  generalize (P.fieldsOf t).toList = fs at hf
  obtain ⟨f, g, hfs⟩ := twoList hf
  subst hfs
  simp only [List.map_cons, List.map_nil, List.cons.injEq, fldOf, Prod.mk.injEq, bne_iff_ne, ne_eq, and_true] at hf
  obtain ⟨⟨n1, e1, o1⟩, n2, e2, o2⟩ := hf
  obtain ⟨⟨a1, a2⟩, a3⟩ := x
  simp only [Op.eqFields, ne_eq, n1, n2, not_false_eq_true, if_true, Sem.run_bind, e1, e2, o1, o2]
  rw [run_partN hag hsz, Result.andThen_ok, run_partN hag hsz, Result.andThen_ok]
  have q1 := run_eq_par hf' ht' hp' hi hs d (a1, a2) (a1, a2) w
  unfold parV at q1
  have x1 : (#[Value.int .i64 a1, .string (mkS a2), .string (mkS (ratT a3))].extract 0 (0 + 2)) = #[.int .i64 a1, .string (mkS a2)] := rfl
  simp only [x1, q1, Result.andThen_ok, decide_true, Bool.not_true, Bool.false_eq_true, if_false, Sem.run_bind]
  rw [run_part1 (und_of_str hr) (v := .string (mkS (ratT a3))) rfl, Result.andThen_ok, run_part1 (und_of_str hr) (v := .string (mkS (ratT a3))) rfl, Result.andThen_ok, run_eq_leaf hr]
  simp
theorem run_eq_pt {t tp ti ts tr : TypeId} {k : IntKind} (hf : (P.fieldsOf t).toList.map fldOf = [(true, tp, 0), (true, tp, 2), (true, tr, 4)]) (ht : P.underlying t = some (.struct (P.fieldsOf t))) (hp : P.stoodInHeld t = false)
    (hf' : (P.fieldsOf tp).toList.map fldOf = [(true, ti, 0), (true, ts, 1)]) (ht' : P.underlying tp = some (.struct (P.fieldsOf tp))) (hp' : P.stoodInHeld tp = false) (hsz : szB P tp = some 2) (hi : P.underlying ti = some (.int k)) (hs : P.underlying ts = some .string) (hr : P.underlying tr = some .string) (d : Nat) (x : (Par × Par) × Rat) (w : World) :
    (Op.equalIn (d + 3) t (prtV x) (prtV x)).run P w = .ok true w := by
  have hag : aggB P tp = some true := by unfold aggB; rw [ht']
  unfold prtV
  rw [run_equalIn_struct w (d + 2) t _ _ ht hp]
  generalize (P.fieldsOf t).toList = fs at hf
  obtain ⟨f, g, g', hfs⟩ := threeList hf
  subst hfs
  simp only [List.map_cons, List.map_nil, List.cons.injEq, fldOf, Prod.mk.injEq, bne_iff_ne, ne_eq, and_true] at hf
  obtain ⟨⟨n1, e1, o1⟩, ⟨n2, e2, o2⟩, n3, e3, o3⟩ := hf
  obtain ⟨⟨⟨a1, a2⟩, ⟨b1, b2⟩⟩, a3⟩ := x
  simp only [Op.eqFields, ne_eq, n1, n2, n3, not_false_eq_true, if_true, Sem.run_bind, e1, e2, e3, o1, o2, o3]
  rw [run_partN hag hsz, Result.andThen_ok, run_partN hag hsz, Result.andThen_ok]
  have q1 := run_eq_par hf' ht' hp' hi hs d (a1, a2) (a1, a2) w
  have q2 := run_eq_par hf' ht' hp' hi hs d (b1, b2) (b1, b2) w
  unfold parV at q1 q2
  have x1 : (#[Value.int .i64 a1, .string (mkS a2), .int .i64 b1, .string (mkS b2), .string (mkS (ratT a3))].extract 0 (0 + 2)) = #[.int .i64 a1, .string (mkS a2)] := rfl
  have x2 : (#[Value.int .i64 a1, .string (mkS a2), .int .i64 b1, .string (mkS b2), .string (mkS (ratT a3))].extract 2 (2 + 2)) = #[.int .i64 b1, .string (mkS b2)] := rfl
  simp only [x1, q1, Result.andThen_ok, decide_true, Bool.not_true, Bool.false_eq_true, if_false, Sem.run_bind]
  rw [run_partN hag hsz, Result.andThen_ok, run_partN hag hsz, Result.andThen_ok]
  simp only [x2, q2, Result.andThen_ok, decide_true, Bool.not_true, Bool.false_eq_true, if_false, Sem.run_bind]
  rw [run_part1 (und_of_str hr) (v := .string (mkS (ratT a3))) rfl, Result.andThen_ok, run_part1 (und_of_str hr) (v := .string (mkS (ratT a3))) rfl, Result.andThen_ok, run_eq_leaf hr]
  simp
end
theorem eqTerm (x : Par × Rat) (w : World) : (Op.equal 99 (termV x) (termV x)).run Tryz.prog w = .ok true w :=
  run_eq_tm (P := Tryz.prog) (t := 99) (tp := 43) (ti := 3) (ts := 9) (tr := 34) (k := .i64) (by kernel_rfl) (by kernel_rfl) (by kernel_rfl) (by kernel_rfl) (by kernel_rfl) (by kernel_rfl) (by kernel_rfl) (by kernel_rfl) (by kernel_rfl) (by kernel_rfl) 9997 x w
theorem eqPairT (x : (Par × Par) × Rat) (w : World) : (Op.equal 102 (prtV x) (prtV x)).run Tryz.prog w = .ok true w :=
  run_eq_pt (P := Tryz.prog) (t := 102) (tp := 43) (ti := 3) (ts := 9) (tr := 34) (k := .i64) (by kernel_rfl) (by kernel_rfl) (by kernel_rfl) (by kernel_rfl) (by kernel_rfl) (by kernel_rfl) (by kernel_rfl) (by kernel_rfl) (by kernel_rfl) (by kernel_rfl) 9997 x w
set_option maxHeartbeats 1000000 in
theorem tEqual0 {u : PH} {v v' : Value} {T : List (Par × Rat)} (h : ListP u v 3 (T.map termV)) (h' : ListP u v' 3 (T.map termV)) (hl : T.length ≤ 1000000) :
    Fn0 Tryz.prog 47 [v, v'] u fun r _ => r = .bool true := by
  obtain ⟨a, c, rfl⟩ := h.opn
  obtain ⟨a', c', rfl⟩ := h'.opn
  rw [List.length_map] at h h' ⊢
  refine Fn0.of Tryz.func47 (by kernel_rfl) (by kernel_rfl) ?_
  refine G.neqF (T.length : Int) (T.length : Int) (by kernel_rfl) (by omega) ?_
  refine G.loop (ι := Nat) (fun i => [(0, .v (.slice a T.length c)), (1, .v (.slice a' T.length c')), (12, .v (.int .i64 (T.length : Int))), (13, .v (.int .i64 (i : Int)))]) (fun _ => [])
    (fun i u' m' => i ≤ T.length ∧ m' = PH.mt) (fun i => T.length - i) 0 (by kernel_rfl) (fun _ => by kernel_rfl) ⟨by kernel_rfl, by kernel_rfl, by kernel_rfl⟩ ⟨by omega, rfl⟩ ?_
  rintro J i hJ u1 m1 l1 ⟨hi, rfl⟩
  by_cases hlt : i < T.length
  · refine G.lssT (i : Int) (T.length : Int) (by kernel_rfl) (by omega) ?_
    have hTi : T[i]? = some T[i] := List.getElem?_eq_getElem hlt
    obtain ⟨ba, oa, rfl, ea⟩ := ListP.at' (h.mono l1) (j := i) (e := termV T[i]) (by simp [hTi])
    obtain ⟨bb, ob, rfl, eb⟩ := ListP.at' (h'.mono l1) (j := i) (e := termV T[i]) (by simp [hTi])
    refine G.addr ba oa T.length c i 3 (by kernel_rfl) (by omega) ?_
    refine G.loadU (some 3) ba (oa + i * 3) (termV T[i]) (by kernel_rfl) (by kernel_rfl) ea ?_
    refine G.addr bb ob T.length c' i 3 (by kernel_rfl) (by omega) ?_
    refine G.loadU (some 3) bb (ob + i * 3) (termV T[i]) (by kernel_rfl) (by kernel_rfl) eb ?_
    refine G.neAgg 99 #[.int .i64 T[i].1.1, .string (mkS T[i].1.2), .string (mkS (ratT T[i].2))] #[.int .i64 T[i].1.1, .string (mkS T[i].1.2), .string (mkS (ratT T[i].2))] true (by kernel_rfl) (by kernel_rfl) (by kernel_rfl) (eqTerm T[i]) ?_
    refine G.add (i : Int) 1 ((i + 1 : Nat) : Int) (by kernel_rfl) (by omega) (by omega) (by omega) ?_
    exact G.back (by kernel_rfl) (hJ (i + 1) _ _ _ ⟨by kernel_rfl, by kernel_rfl, by kernel_rfl⟩ l1 ⟨by omega, rfl⟩ (by omega))
  · obtain rfl : i = T.length := by omega
    refine G.lssF (T.length : Int) (T.length : Int) (by kernel_rfl) (by omega) ?_
    exact G.ret (.bool true) (by kernel_rfl) ⟨rfl, rfl⟩
set_option maxHeartbeats 1000000 in
theorem qEqual0 {u : PH} {v v' : Value} {T : List ((Par × Par) × Rat)} (h : ListP u v 5 (T.map prtV)) (h' : ListP u v' 5 (T.map prtV)) (hl : T.length ≤ 1000000) :
    Fn0 Tryz.prog 48 [v, v'] u fun r _ => r = .bool true := by
  obtain ⟨a, c, rfl⟩ := h.opn
  obtain ⟨a', c', rfl⟩ := h'.opn
  rw [List.length_map] at h h' ⊢
  refine Fn0.of Tryz.func48 (by kernel_rfl) (by kernel_rfl) ?_
  refine G.neqF (T.length : Int) (T.length : Int) (by kernel_rfl) (by omega) ?_
  refine G.loop (ι := Nat) (fun i => [(0, .v (.slice a T.length c)), (1, .v (.slice a' T.length c')), (12, .v (.int .i64 (T.length : Int))), (13, .v (.int .i64 (i : Int)))]) (fun _ => [])
    (fun i u' m' => i ≤ T.length ∧ m' = PH.mt) (fun i => T.length - i) 0 (by kernel_rfl) (fun _ => by kernel_rfl) ⟨by kernel_rfl, by kernel_rfl, by kernel_rfl⟩ ⟨by omega, rfl⟩ ?_
  rintro J i hJ u1 m1 l1 ⟨hi, rfl⟩
  by_cases hlt : i < T.length
  · refine G.lssT (i : Int) (T.length : Int) (by kernel_rfl) (by omega) ?_
    have hTi : T[i]? = some T[i] := List.getElem?_eq_getElem hlt
    obtain ⟨ba, oa, rfl, ea⟩ := ListP.at' (h.mono l1) (j := i) (e := prtV T[i]) (by simp [hTi])
    obtain ⟨bb, ob, rfl, eb⟩ := ListP.at' (h'.mono l1) (j := i) (e := prtV T[i]) (by simp [hTi])
    refine G.addr ba oa T.length c i 5 (by kernel_rfl) (by omega) ?_
    refine G.loadU (some 5) ba (oa + i * 5) (prtV T[i]) (by kernel_rfl) (by kernel_rfl) ea ?_
    refine G.addr bb ob T.length c' i 5 (by kernel_rfl) (by omega) ?_
    refine G.loadU (some 5) bb (ob + i * 5) (prtV T[i]) (by kernel_rfl) (by kernel_rfl) eb ?_
    refine G.neAgg 102 #[.int .i64 T[i].1.1.1, .string (mkS T[i].1.1.2), .int .i64 T[i].1.2.1, .string (mkS T[i].1.2.2), .string (mkS (ratT T[i].2))] #[.int .i64 T[i].1.1.1, .string (mkS T[i].1.1.2), .int .i64 T[i].1.2.1, .string (mkS T[i].1.2.2), .string (mkS (ratT T[i].2))] true (by kernel_rfl) (by kernel_rfl) (by kernel_rfl) (eqPairT T[i]) ?_
    refine G.add (i : Int) 1 ((i + 1 : Nat) : Int) (by kernel_rfl) (by omega) (by omega) (by omega) ?_
    exact G.back (by kernel_rfl) (hJ (i + 1) _ _ _ ⟨by kernel_rfl, by kernel_rfl, by kernel_rfl⟩ l1 ⟨by omega, rfl⟩ (by omega))
  · obtain rfl : i = T.length := by omega
    refine G.lssF (T.length : Int) (T.length : Int) (by kernel_rfl) (by omega) ?_
    exact G.ret (.bool true) (by kernel_rfl) ⟨rfl, rfl⟩
theorem same0 {u : PH} {v v' : Value} {F : CF} {K K' : Nat} (h : CofP u v F K) (h' : CofP u v' F K') (hK : K ≤ 1000000) : Fn0 Tryz.prog 16 [v, v'] u fun r _ => r = .bool true := by
  obtain ⟨T, Q, a1, c1, a2, c2, rfl, hT, hQ, cT, cQ, kT, kQ⟩ := h
  obtain ⟨T', Q', b1, d1, b2, d2, rfl, hT', hQ', cT', cQ', kT', kQ'⟩ := h'
  obtain rfl : T' = T := cT'.ext ordP cT
  obtain rfl : Q' = Q := cQ'.ext ordQ cQ
  refine Fn0.of Tryz.func16 (by kernel_rfl) (by kernel_rfl) ?_
  refine G.eqST (ratT F.c) (ratT F.c) (by kernel_rfl) rfl ?_
  refine G.call0 _ _ (by kernel_rfl) Tryz.call47 (tEqual0 hT hT' (by omega)) ?_
  rintro v1 u1 l1 rfl
  refine G.call0 _ _ (by kernel_rfl) Tryz.call48 (qEqual0 (hQ.mono l1) (hQ'.mono l1) (by omega)) ?_
  rintro v2 u2 l2 rfl
  exact G.ret (.bool true) (by kernel_rfl) ⟨rfl, rfl⟩
def RngP (u : PH) (v : Value) (F : CF) (K : Nat) : Prop := ∃ r, v = .tuple #[r, .int .i64 0] ∧ CofP u r F K
theorem CofP.opn {u : PH} {v : Value} {F : CF} {K : Nat} (h : CofP u v F K) : ∃ a1 n1 c1 a2 n2 c2, v = .agg #[.string (mkS (ratT F.c)), .slice a1 n1 c1, .slice a2 n2 c2] := by
  obtain ⟨T, Q, a1, c1, a2, c2, rfl, _⟩ := h
  exact ⟨_, _, _, _, _, _, rfl⟩
theorem momP_opn {u : PH} {v : Value} {F : CF} {N : Nat} (h : MomP u v F N) : ∃ b a n c b' a' n' c' g1 g2, v = .agg #[.bool b, .slice a n c, .bool b', .slice a' n' c', .map (some g1), .map (some g2)] := by
  obtain ⟨b, a, n, c, b', a', n', c', g1, g2, o1, o2, e, _⟩ := h
  exact ⟨_, _, _, _, _, _, _, _, _, _, e⟩
theorem ofP0 {u : PH} {F : CF} {K : Nat} {v : Value} (hv : CofP u v F K) (sF : CFS F) (hK : K ≤ 1000000) : Fn0 Tryz.prog 45 [v] u fun v' u' => MomP u' v' F K :=
  Fn0.weak (Contract.giveAll (of0 hv sF hK)) fun v u' ⟨u1, m1, l1, l2, h⟩ => h.give l1 l2
theorem addP0 {u : PH} {F H : CF} {N M : Nat} {v w : Value} (hv : MomP u v F N) (hw : MomP u w H M) (sF : CFS F) (sH : CFS H) (sR : CFS (F.add H)) : Fn0 Tryz.prog 55 [v, w] u fun v' u' => MomP u' v' (F.add H) (N + M) :=
  Fn0.weak (Contract.giveAll (addM0 hv hw sF sH sR)) fun v u' ⟨u1, m1, l1, l2, h⟩ => h.give l1 l2
theorem mulP0 {u : PH} {F H : CF} {N M : Nat} {v w : Value} (hv : MomP u v F N) (hw : MomP u w H M) (ok : MulOK F H) : Fn0 Tryz.prog 46 [v, w] u fun v' u' => MomP u' v' (F.mul H) (M + N + N * M) :=
  Fn0.weak (Contract.giveAll (mulM0 hv hw ok)) fun v u' ⟨u1, m1, l1, l2, h⟩ => h.give l1 l2
set_option maxHeartbeats 1000000 in
theorem ringMul0 {u : PH} {v w : Value} {F H : CF} {N M : Nat} (ht : TabU u) (hv : CofP u v F N) (hw : CofP u w H M) (vF : CFV F) (vH : CFV H) (ok : MulOK F H) (sR : CFS (F.mul H)) (hN : N ≤ 900) (hM : M ≤ 900) : Fn0 Tryz.prog 15 [v, w] u fun r u' => RngP u' r (F.mul H) (M + N + N * M) := by
  have hb : M + N + N * M ≤ 1000000 := by have := Nat.mul_le_mul hN hM; omega
  obtain ⟨a1, n1, c1, a2, n2, c2, rfl⟩ := hv.opn
  obtain ⟨b1, p1, d1, b2, p2, d2, rfl⟩ := hw.opn
  refine Fn0.of Tryz.func15 (by kernel_rfl) (by kernel_rfl) ?_
  refine G.call0 _ _ (by kernel_rfl) Tryz.call33 (valid0 hv ok.a vF (by omega)) ?_
  rintro v1 u1 l1 rfl
  refine G.call0 _ _ (by kernel_rfl) Tryz.call33 (valid0 (hw.mono l1) ok.b vH (by omega)) ?_
  rintro v2 u2 l2 rfl
  refine G.call0 _ _ (by kernel_rfl) Tryz.call45 (ofP0 (hv.mono (l1.trans l2)) ok.a (by omega)) ?_
  intro v3 u3 l3 k3
  obtain ⟨_, _, _, _, _, _, _, _, _, _, rfl⟩ := momP_opn k3
  refine G.call0 _ _ (by kernel_rfl) Tryz.call45 (ofP0 (hw.mono ((l1.trans l2).trans l3)) ok.b (by omega)) ?_
  intro v4 u4 l4 k4
  obtain ⟨_, _, _, _, _, _, _, _, _, _, rfl⟩ := momP_opn k4
  refine G.call0 _ _ (by kernel_rfl) Tryz.call46 (mulP0 (k3.mono l4) k4 ok) ?_
  intro v5 u5 l5 k5
  obtain ⟨_, _, _, _, _, _, _, _, _, _, rfl⟩ := momP_opn k5
  refine G.call0 _ _ (by kernel_rfl) Tryz.call44 (cofactor0 (ht.mono ((((l1.trans l2).trans l3).trans l4).trans l5)) k5 sR hb) ?_
  rintro v6 u6 l6 ⟨r, rfl, k6⟩
  obtain ⟨e1, f1, g1, e2, f2, g2, rfl⟩ := k6.opn
  exact G.ret _ (by kernel_rfl) ⟨rfl, _, rfl, k6⟩
set_option maxHeartbeats 1000000 in
theorem ringAdd0 {u : PH} {v w : Value} {F H : CF} {N M : Nat} (ht : TabU u) (hv : CofP u v F N) (hw : CofP u w H M) (vF : CFV F) (vH : CFV H) (sF : CFS F) (sH : CFS H) (sR : CFS (F.add H)) (hN : N ≤ 400000) (hM : M ≤ 400000) : Fn0 Tryz.prog 24 [v, w] u fun r u' => RngP u' r (F.add H) (N + M) := by
  obtain ⟨a1, n1, c1, a2, n2, c2, rfl⟩ := hv.opn
  obtain ⟨b1, p1, d1, b2, p2, d2, rfl⟩ := hw.opn
  refine Fn0.of Tryz.func24 (by kernel_rfl) (by kernel_rfl) ?_
  refine G.call0 _ _ (by kernel_rfl) Tryz.call33 (valid0 hv sF vF (by omega)) ?_
  rintro v1 u1 l1 rfl
  refine G.call0 _ _ (by kernel_rfl) Tryz.call33 (valid0 (hw.mono l1) sH vH (by omega)) ?_
  rintro v2 u2 l2 rfl
  refine G.call0 _ _ (by kernel_rfl) Tryz.call45 (ofP0 (hv.mono (l1.trans l2)) sF (by omega)) ?_
  intro v3 u3 l3 k3
  obtain ⟨_, _, _, _, _, _, _, _, _, _, rfl⟩ := momP_opn k3
  refine G.call0 _ _ (by kernel_rfl) Tryz.call45 (ofP0 (hw.mono ((l1.trans l2).trans l3)) sH (by omega)) ?_
  intro v4 u4 l4 k4
  obtain ⟨_, _, _, _, _, _, _, _, _, _, rfl⟩ := momP_opn k4
  refine G.call0 _ _ (by kernel_rfl) Tryz.call55 (addP0 (k3.mono l4) k4 sF sH sR) ?_
  intro v5 u5 l5 k5
  obtain ⟨_, _, _, _, _, _, _, _, _, _, rfl⟩ := momP_opn k5
  refine G.call0 _ _ (by kernel_rfl) Tryz.call44 (cofactor0 (ht.mono ((((l1.trans l2).trans l3).trans l4).trans l5)) k5 sR (by omega)) ?_
  rintro v6 u6 l6 ⟨r, rfl, k6⟩
  obtain ⟨e1, f1, g1, e2, f2, g2, rfl⟩ := k6.opn
  exact G.ret _ (by kernel_rfl) ⟨rfl, _, rfl, k6⟩
def CF.num (k : Rat) : CF := ⟨k, fun _ => 0, fun _ => 0⟩
theorem cofP_num (u : PH) (k : Rat) : CofP u (.agg #[.string (mkS (ratT k)), .slice none 0 0, .slice none 0 0]) (CF.num k) 0 :=
  ⟨[], [], none, 0, none, 0, rfl, ListP.nil _ _ _ _, ListP.nil _ _ _ _, ⟨List.Pairwise.nil, fun p hp => by simp at hp, fun _ _ => rfl⟩, ⟨List.Pairwise.nil, fun p hp => by simp at hp, fun _ _ => rfl⟩, Nat.le_refl _, Nat.le_refl _⟩
theorem ringOne0 {u : PH} : Fn0 Tryz.prog 12 [] u fun r u' => r = .agg #[.string (mkS (ratT 1)), .slice none 0 0, .slice none 0 0] := by
  refine Fn0.of Tryz.func12 (by kernel_rfl) (by kernel_rfl) ?_
  rw [ratT_one]
  exact G.ret _ (by kernel_rfl) ⟨rfl, rfl⟩
end Go.Proofs.YtikfmknnbjocmaaGreatDoor
end
section
set_option linter.unusedSectionVars false
set_option linter.unusedVariables false
namespace Go.Proofs.YtikfmknnbjocmaaGreatDoor
open Go.RowKit Go.MapKept
section rules
variable [Flag] {P : Program} [Mixed P] {fn : Func} {Post : Spec} {st : List KI × S} {u m : PH}
def FnK (P : Program) (f : FuncId) (args : List Value) (u m : PH) (R : Value → PH → Prop) : Prop := Contract P f args u m fun v u' m' => m' = m ∧ R v u'
theorem FnK.of {R : Value → PH → Prop} {f : FuncId} {args : List Value} (hf : P.funcs[f]? = some fn) (hb : fn.body.isSome = true) (hn : Nat.ble args.length fn.ntmps = true) (h : G P fn ⟨fun v u' m' => m' = m ∧ R v u', m⟩ (st0 fn args) u m) : FnK P f args u m R := Contract.of hf hb hn h
theorem G.callK (f : Nat) (args : List Value) {R : Value → PH → Prop} (h : stopV P (adv P st) = .call f args) (hc : ∀ args w, (callFunc f args).run P w = .ok (.enter f args) w) (c : FnK P f args u m R)
    (k : ∀ v u', PH.le u u' → R v u' → G P fn Post (nx (adv P st) v) u' m) : G P fn Post st u m := by
  refine G.big (K := fun v u' m' => m' = m ∧ R v u') h (by simp) view_call_free (.inl fun v u' m' hK => by rw [hK.1]; exact fun g o hg => hg) (fun env o hview w hgd => ?_) (fun v u' m' h1 h2 => ?_)
  · refine does_call hview hc w _ (Calls.mono (c w hgd) fun e w' he => ?_)
    obtain ⟨v, u', m', e1, e2, e3, e4⟩ := he
    exact ⟨v, e1, u', m', e2, e3, e4⟩
  · obtain ⟨rfl, hR⟩ := h2; exact k v u' h1 hR
end rules
section
theorem sIndex0 {u m : PH} {b n c : Nat} {x : List UInt8} (L : List (List UInt8)) (hn : n ≤ L.length) (hl : n ≤ 1000000) (hE : ∀ j s, L[j]? = some s → ElP m b (0 + j * 1) (.string (mkS s))) (hx : ∀ j s, j < n → L[j]? = some s → s ≠ x) :
    FnK Tryz.prog 178 [.slice (some ⟨b, 0, none⟩) n c, .string (mkS x)] u m fun v _ => v = .int .i64 (-1) := by
  refine FnK.of Tryz.func178 (by kernel_rfl) (by kernel_rfl) ?_
  refine G.loop (ι := Nat) (fun i => [(0, .v (.slice (some ⟨b, 0, none⟩) n c)), (1, .v (.string (mkS x))), (7, .v (.int .i64 (n : Int))), (8, .v (.int .i64 (i : Int)))]) (fun _ => [])
    (fun i u' m' => i ≤ n ∧ m' = m) (fun i => n - i) 0 (by kernel_rfl) (fun _ => by kernel_rfl) ⟨by kernel_rfl, by kernel_rfl, by kernel_rfl⟩ ⟨by omega, rfl⟩ ?_
  rintro J i hJ u1 m1 l1 ⟨hi, rfl⟩
  by_cases hlt : i < n
  · refine G.lssT (i : Int) (n : Int) (by kernel_rfl) (by omega) ?_
    have hTi : L[i]? = some L[i] := List.getElem?_eq_getElem (by omega)
    refine G.addr b 0 n c i 1 (by kernel_rfl) hlt ?_
    refine G.loadM none b (0 + i * 1) (.string (mkS L[i])) (by kernel_rfl) (by kernel_rfl) (hE i _ hTi) ?_
    refine G.eqSF x L[i] (by kernel_rfl) (fun e => hx i _ hlt hTi e.symm) ?_
    refine G.add (i : Int) 1 ((i + 1 : Nat) : Int) (by kernel_rfl) (by omega) (by omega) (by omega) ?_
    exact G.back (by kernel_rfl) (hJ (i + 1) _ _ _ ⟨by kernel_rfl, by kernel_rfl, by kernel_rfl⟩ l1 ⟨by omega, rfl⟩ (by omega))
  · obtain rfl : i = n := by omega
    refine G.lssF (i : Int) (i : Int) (by kernel_rfl) (by omega) ?_
    exact G.ret (.int .i64 (-1)) (by kernel_rfl) ⟨rfl, rfl⟩
theorem sContains0 {u m : PH} {b n c : Nat} {x : List UInt8} (L : List (List UInt8)) (hn : n ≤ L.length) (hl : n ≤ 1000000) (hE : ∀ j s, L[j]? = some s → ElP m b (0 + j * 1) (.string (mkS s))) (hx : ∀ j s, j < n → L[j]? = some s → s ≠ x) :
    FnK Tryz.prog 155 [.slice (some ⟨b, 0, none⟩) n c, .string (mkS x)] u m fun v _ => v = .bool false := by
  refine FnK.of Tryz.func155 (by kernel_rfl) (by kernel_rfl) ?_
  refine G.callK _ _ (by kernel_rfl) Tryz.call178 (sIndex0 (c := c) L hn hl hE hx) ?_
  rintro v1 u1 l1 rfl
  refine G.geqF (-1) 0 (by kernel_rfl) (by omega) ?_
  exact G.ret (.bool false) (by kernel_rfl) ⟨rfl, rfl⟩
structure Names (L : List (List UInt8)) : Prop where
  word : ∀ s ∈ L, wordB s = true
  nodup : L.Nodup
theorem named0 {u m : PH} {b k c : Nat} {x : List UInt8} {L : List (List UInt8)} (h : Names L) (hl : L.length ≤ 1000) (hc : L.length ≤ c) (hk : L[k]? = some x) (hE : ∀ j s, L[j]? = some s → ElP m b (0 + j * 1) (.string (mkS s))) :
    FnK Tryz.prog 121 [.slice (some ⟨b, 0, none⟩) L.length c, .int .i64 (k : Int)] u m fun v _ => v = .int .i64 0 := by
  obtain ⟨hkl, hkx⟩ := List.getElem?_eq_some_iff.1 hk
  refine FnK.of Tryz.func121 (by kernel_rfl) (by kernel_rfl) ?_
  refine G.addr b 0 L.length c k 1 (by kernel_rfl) hkl ?_
  refine G.loadM none b (0 + k * 1) (.string (mkS x)) (by kernel_rfl) (by kernel_rfl) (hE k x hk) ?_
  refine G.call0 _ _ (by kernel_rfl) Tryz.call80 (word0 (h.word x (List.mem_of_getElem? hk))) ?_
  rintro v1 u1 l1 rfl
  refine G.sliceTo 1 (some ⟨b, 0, none⟩) L.length c k (by kernel_rfl) (by omega) ?_
  refine G.addr b 0 L.length c k 1 (by kernel_rfl) hkl ?_
  refine G.loadM none b (0 + k * 1) (.string (mkS x)) (by kernel_rfl) (by kernel_rfl) (hE k x hk) ?_
  refine G.callK _ _ (by kernel_rfl) Tryz.call155 (sContains0 (n := k) (c := c) (x := x) L (by omega) (by omega) hE fun j s hj hs e => ?_) ?_
  · obtain ⟨hjl, hjx⟩ := List.getElem?_eq_some_iff.1 hs
    have := (List.getElem_inj (h₀ := hjl) (h₁ := hkl) h.nodup).1 (by rw [hjx, hkx, e])
    omega
  rintro v2 u2 l2 rfl
  exact G.ret (.int .i64 0) (by kernel_rfl) ⟨rfl, rfl⟩
def attV (a : List UInt8 × Nat) : Value := .agg #[.string (mkS a.1), .int .i64 (a.2 : Int)]
def nmV (s : List UInt8) : Value := .string (mkS s)
theorem nmV_ok (L : List (List UInt8)) : ElsOK 1 (L.map nmV) := by
  intro e he
  obtain ⟨s, _, rfl⟩ := List.mem_map.1 he
  exact ⟨rfl, List.all_eq_true.1 rfl⟩
end
end Go.Proofs.YtikfmknnbjocmaaGreatDoor
end
section
set_option linter.unusedSectionVars false
set_option linter.unusedVariables false
namespace Go.Proofs.YtikfmknnbjocmaaGreatDoor
open Go.RowKit Go.MapKept
structure AttOK (T : List (List UInt8 × Nat)) : Prop where
  names : Names (T.map (·.1))
  kind : ∀ a ∈ T, 1 ≤ a.2 ∧ a.2 ≤ 3
theorem Names.take {L : List (List UInt8)} (h : Names L) (k : Nat) : Names (L.take k) := ⟨fun s hs => h.word s (List.mem_of_mem_take hs), h.nodup.sublist (List.take_sublist _ _)⟩
theorem getElem?_snoc_last {α : Type} (l : List α) (x : α) : (l ++ [x])[l.length]? = some x := by simp
set_option maxHeartbeats 1000000 in
theorem attributes0 {u : PH} {v w x y : Value} {T : List (List UInt8 × Nat)} (h : ListP u v 2 (T.map attV)) (ok : AttOK T) (hl : T.length ≤ 1000) (hw : ∃ a n c, w = .slice a n c) (hx : ∃ a n c, x = .slice a n c) (hy : ∃ z : Int, y = .int .i64 z) :
    Fn0 Tryz.prog 74 [.agg #[v, w, x, y]] u fun r _ => r = .int .i64 0 := by
  obtain ⟨a, c, rfl⟩ := h.opn
  obtain ⟨wa, wn, wc, rfl⟩ := hw
  obtain ⟨xa, xn, xc, rfl⟩ := hx
  obtain ⟨z, rfl⟩ := hy
  rw [List.length_map] at h ⊢
  refine Fn0.of Tryz.func74 (by kernel_rfl) (by kernel_rfl) ?_
  refine G.loop (ι := Nat × (Option Addr × Nat × Nat)) (fun i => [(3, .v (.slice i.2.1 i.2.2.1 i.2.2.2)), (8, .v (.slice a T.length c)), (9, .v (.int .i64 (T.length : Int))), (10, .v (.int .i64 (i.1 : Int)))]) (fun _ => [])
    (fun i u' m' => i.1 ≤ T.length ∧ ArrAt PH.mt m' (.slice i.2.1 i.2.2.1 i.2.2.2) 9 1 (((T.map (·.1)).take i.1).map nmV)) (fun i => T.length - i.1) (0, (none, 0, 0)) (by kernel_rfl) (fun _ => by kernel_rfl) ⟨by kernel_rfl, by kernel_rfl, by kernel_rfl⟩ ⟨by simp, ArrAt.nil _ _ _⟩ ?_
  rintro J ⟨i, na, nn, nc⟩ hJ u1 m1 l1 ⟨hi, hA⟩
  simp only at hi hA hJ
  by_cases hlt : i < T.length
  · refine G.lssT (i : Int) (T.length : Int) (by kernel_rfl) (by omega) ?_
    have hTi : T[i]? = some T[i] := List.getElem?_eq_getElem hlt
    have hki := ok.kind T[i] (List.getElem_mem hlt)
    have htk : ((T.map (·.1)).take (i + 1)) = (T.map (·.1)).take i ++ [T[i].1] := by
      rw [List.take_add_one, List.getElem?_map, hTi]; rfl
    have hnames := ok.names.take (i + 1)
    rw [htk] at hnames
    have hlen : ((T.map (·.1)).take i).length = i := by simp; omega
    generalize hL : (T.map (·.1)).take i = L at hA htk hnames hlen
    obtain ⟨ba, oa, rfl, ea⟩ := ListP.at' (h.mono l1) (j := i) (e := attV T[i]) (by simp [hTi])
    generalize T[i] = q at ea hki htk hnames
    refine G.addr ba oa T.length c i 2 (by kernel_rfl) hlt ?_
    refine G.loadU (some 2) ba (oa + i * 2) (.agg #[.string (mkS q.1), .int .i64 (q.2 : Int)]) (by kernel_rfl) (by kernel_rfl) ea ?_
    refine G.buildU 9 1 16 (.string (mkS [])) [.string (mkS q.1)] (by kernel_rfl) (nmV_ok [q.1]) rfl (by omega) (by simp) (by simp) ?_
    intro g2 u2 l2 e2
    refine G.append 9 1 16 (.string (mkS [])) PH.mt (L.map nmV) [.string (mkS q.1)] (.slice na nn nc) g2 0 1 1 (by kernel_rfl) rfl rfl (by omega) hA e2 (nmV_ok [q.1]) rfl (by omega) (by simp; omega) (by simp; omega) ?_
    intro v3 m3 hA3
    rw [show L.map nmV ++ [.string (mkS q.1)] = (L ++ [q.1]).map nmV by rw [List.map_append]; rfl] at hA3
    obtain ⟨b3, c3, rfl⟩ := hA3.ptr (by simp)
    have hcap := hA3.cap
    rw [List.length_map] at hA3 hcap ⊢
    refine G.callK _ _ (by kernel_rfl) Tryz.call121 (named0 (b := b3) (k := i) (c := c3) (x := q.1) (L := L ++ [q.1]) hnames (by simp; omega) hcap (by rw [← hlen]; exact getElem?_snoc_last L q.1) fun j s hs => hA3.el (by rw [List.getElem?_map, hs]; rfl)) ?_
    rintro v4 u4 l4 rfl
    refine G.neqF 0 0 (by kernel_rfl) (by omega) ?_
    refine G.lssF (q.2 : Int) 1 (by kernel_rfl) (by omega) ?_
    refine G.gtrF (q.2 : Int) 3 (by kernel_rfl) (by omega) ?_
    refine G.add (i : Int) 1 ((i + 1 : Nat) : Int) (by kernel_rfl) (by omega) (by omega) (by omega) ?_
    exact G.back (by kernel_rfl) (hJ (i + 1, (some ⟨b3, 0, none⟩, (L ++ [q.1]).length, c3)) _ _ _ ⟨by kernel_rfl, by kernel_rfl, by kernel_rfl⟩ ((l1.trans l2).trans l4) ⟨by dsimp only; omega, by dsimp only; rw [htk]; exact hA3⟩ (by dsimp only; omega))
  · obtain rfl : i = T.length := by omega
    refine G.lssF (T.length : Int) (T.length : Int) (by kernel_rfl) (by omega) ?_
    refine G.pastI ?_
    refine G.drop PH.mt (by kernel_rfl) (PH.mt_le _) ?_
    exact G.ret (.int .i64 0) (by kernel_rfl) ⟨rfl, rfl⟩
end Go.Proofs.YtikfmknnbjocmaaGreatDoor
end
section
set_option linter.unusedSectionVars false
set_option linter.unusedVariables false
namespace Go.Proofs.YtikfmknnbjocmaaGreatDoor
open Go.RowKit Go.MapKept
abbrev Feat : Type := Nat × Nat × Nat
def featV (f : Feat) : Value := .agg #[.int .i64 (f.1 : Int), .int .i64 (f.2.1 : Int), .int .i64 (f.2.2 : Int)]
def idxF {α : Type} (p : α → Bool) (T : List α) : Int := match T.findIdx? p with | some k => (k : Int) | none => -1
theorem idxF_at {α : Type} {p : α → Bool} {T : List α} {i : Nat} (hi : i < T.length) (h : p T[i] = true) (h0 : ∀ j (hj : j < i), p (T[j]'(by omega)) = false) : idxF p T = (i : Int) := by
  have : T.findIdx? p = some i := List.findIdx?_eq_some_iff_getElem.2 ⟨hi, h, fun j hj => by simp [h0 j hj]⟩
  unfold idxF; rw [this]
theorem idxF_no {α : Type} {p : α → Bool} {T : List α} (h0 : ∀ x ∈ T, p x = false) : idxF p T = -1 := by
  have : T.findIdx? p = none := List.findIdx?_eq_none_iff.2 h0
  unfold idxF; rw [this]
theorem fIndex0 {u m : PH} {v cap : Value} {T : List Feat} {fid : Nat} (p : Feat → Bool) (h : ListP u v 3 (T.map featV)) (hl : T.length ≤ 1000000)
    (hcall : ∀ args w, (callFunc fid args).run Tryz.prog w = .ok (.enter fid args) w) (hf : ∀ f ∈ T, ∀ u', PH.le u u' → FnK Tryz.prog fid [featV f, cap] u' m fun v _ => v = .bool (p f)) :
    FnK Tryz.prog 81 [v, .func (.func fid) #[] #[cap]] u m fun v' _ => v' = .int .i64 (idxF p T) := by
  obtain ⟨a, c, rfl⟩ := h.opn
  rw [List.length_map] at h ⊢
  refine FnK.of Tryz.func81 (by kernel_rfl) (by kernel_rfl) ?_
  refine G.loop (ι := Nat) (fun i => [(0, .v (.slice a T.length c)), (1, .v (.func (.func fid) #[] #[cap])), (7, .v (.int .i64 (T.length : Int))), (8, .v (.int .i64 (i : Int)))]) (fun _ => [])
    (fun i u' m' => i ≤ T.length ∧ (∀ j (hj : j < T.length), j < i → p (T[j]'hj) = false) ∧ m' = m) (fun i => T.length - i) 0 (by kernel_rfl) (fun _ => by kernel_rfl) ⟨by kernel_rfl, by kernel_rfl, by kernel_rfl⟩ ⟨by omega, fun j hj h => by omega, rfl⟩ ?_
  rintro J i hJ u1 m1 l1 ⟨hi, h0, rfl⟩
  by_cases hlt : i < T.length
  · refine G.lssT (i : Int) (T.length : Int) (by kernel_rfl) (by omega) ?_
    have hTi : T[i]? = some T[i] := List.getElem?_eq_getElem hlt
    obtain ⟨ba, oa, rfl, ea⟩ := ListP.at' (h.mono l1) (j := i) (e := featV T[i]) (by simp [hTi])
    refine G.addr ba oa T.length c i 3 (by kernel_rfl) (by omega) ?_
    refine G.loadU (some 3) ba (oa + i * 3) (featV T[i]) (by kernel_rfl) (by kernel_rfl) ea ?_
    refine G.callK fid [featV T[i], cap] (by kernel_rfl) hcall (hf T[i] (List.getElem_mem hlt) u1 l1) ?_
    rintro v2 u2 l2 rfl
    cases hp : p T[i] with
    | true =>
      rw [idxF_at hlt hp fun j hj => h0 j (by omega) hj]
      exact G.ret (.int .i64 (i : Int)) (by kernel_rfl) ⟨rfl, rfl⟩
    | false =>
      refine G.add (i : Int) 1 ((i + 1 : Nat) : Int) (by kernel_rfl) (by omega) (by omega) (by omega) ?_
      exact G.back (by kernel_rfl) (hJ (i + 1) _ _ _ ⟨by kernel_rfl, by kernel_rfl, by kernel_rfl⟩ (l1.trans l2) ⟨by omega, fun j hj h => by
        rcases (by omega : j < i ∨ j = i) with e | rfl
        · exact h0 j hj e
        · exact hp, rfl⟩ (by omega))
  · obtain rfl : i = T.length := by omega
    refine G.lssF (T.length : Int) (T.length : Int) (by kernel_rfl) (by omega) ?_
    rw [idxF_no fun x hx => by obtain ⟨j, hj, rfl⟩ := List.getElem_of_mem hx; exact h0 j hj hj]
    exact G.ret (.int .i64 (-1)) (by kernel_rfl) ⟨rfl, rfl⟩
theorem fContainsNo0 {u m : PH} {v cap : Value} {T : List Feat} {fid : Nat} (h : ListP u v 3 (T.map featV)) (hl : T.length ≤ 1000000)
    (hcall : ∀ args w, (callFunc fid args).run Tryz.prog w = .ok (.enter fid args) w) (hf : ∀ f ∈ T, ∀ u', PH.le u u' → FnK Tryz.prog fid [featV f, cap] u' m fun v _ => v = .bool false) :
    FnK Tryz.prog 123 [v, .func (.func fid) #[] #[cap]] u m fun v' _ => v' = .bool false := by
  obtain ⟨a, c, rfl⟩ := h.opn
  refine FnK.of Tryz.func123 (by kernel_rfl) (by kernel_rfl) ?_
  refine G.callK _ _ (by kernel_rfl) Tryz.call81 (fIndex0 (cap := cap) (fun _ => false) h hl hcall hf) ?_
  rintro v1 u1 l1 rfl
  rw [idxF_no fun x _ => rfl]
  refine G.geqF (-1) 0 (by kernel_rfl) (by omega) ?_
  exact G.ret (.bool false) (by kernel_rfl) ⟨rfl, rfl⟩
theorem sameAtt0 {u m : PH} {f g : Feat} {b : Nat} (hb : ElP m b 0 (featV g)) (hne : f.1 ≠ g.1) : FnK Tryz.prog 124 [featV f, .pointer (some ⟨b, 0, none⟩)] u m fun v _ => v = .bool false := by
  refine FnK.of Tryz.func124 (by kernel_rfl) (by kernel_rfl) ?_
  refine G.fieldA 50 b 0 0 0 (by kernel_rfl) (by kernel_rfl) ?_
  refine G.loadM none b (0 + 0) (.int .i64 (g.1 : Int)) (by kernel_rfl) (by kernel_rfl) (fun i x hx => ?_) ?_
  · have : i = 0 ∧ x = .int .i64 (g.1 : Int) := by
      match i, hx with
      | 0, hx => exact ⟨rfl, by simpa [Value.cells] using hx.symm⟩
      | i + 1, hx => simp [Value.cells] at hx
    obtain ⟨rfl, rfl⟩ := this
    exact hb 0 _ rfl
  refine G.eqlF (f.1 : Int) (g.1 : Int) (by kernel_rfl) (by omega) ?_
  exact G.ret (.bool false) (by kernel_rfl) ⟨rfl, rfl⟩
structure FeatOK (T : List (List UInt8 × Nat)) (F : List Feat) (lab : Int) : Prop where
  ok : ∀ f ∈ F, ∃ n k, T[f.1]? = some (n, k) ∧ ((f.2.1 = 1 ∧ k = 2 ∧ f.2.2 ≤ 1) ∨ (f.2.1 = 2 ∧ k = 3 ∧ f.2.2 = 0)) ∧ (f.1 : Int) ≠ lab
  nodup : (F.map (·.1)).Nodup
end Go.Proofs.YtikfmknnbjocmaaGreatDoor
end
section
set_option linter.unusedSectionVars false
set_option linter.unusedVariables false
namespace Go.Proofs.YtikfmknnbjocmaaGreatDoor
open Go.RowKit Go.MapKept
theorem ListP.cap {u : PH} {a : Option Addr} {n c sz : Nat} {es : List Value} (h : ListP u (.slice a n c) sz es) : es.length ≤ c := by
  obtain ⟨_, _, e, hc, _⟩ := h
  cases e; exact hc
theorem elP_att2 {u : PH} {b off : Nat} {q : List UInt8 × Nat} (h : ElP u b off (attV q)) : ElP u b (off + 1) (.int .i64 (q.2 : Int)) := fun i x hx => by
  match i, hx with
  | 0, hx =>
    have : x = .int .i64 (q.2 : Int) := by simpa [Value.cells] using hx.symm
    subst this
    exact h 1 _ rfl
  | i + 1, hx => simp [Value.cells] at hx
theorem elP_upd {m : PH} {b : Nat} {t : TypeId} {xs : List Value} {e : Value} (he : e.cells = xs.toArray) : ElP (m.upd b (.cells xs.toArray t (0, 0))) b 0 e := fun i x hx => by
  refine ⟨_, _, _, upd_same _ _ _, ?_⟩
  rw [he] at hx
  simpa using hx
theorem elP_f0 {m : PH} {b : Nat} {g : Feat} (hb : ElP m b 0 (featV g)) : ElP m b (0 + 0) (.int .i64 (g.1 : Int)) := fun i x hx => by
  match i, hx with
  | 0, hx =>
    have : x = .int .i64 (g.1 : Int) := by simpa [Value.cells] using hx.symm
    subst this
    exact hb 0 _ rfl
  | i + 1, hx => simp [Value.cells] at hx
set_option maxHeartbeats 2000000 in
theorem features0 {u : PH} {v w x : Value} {T : List (List UInt8 × Nat)} {F : List Feat} {lab : Int} (h : ListP u v 2 (T.map attV)) (hF : ListP u x 3 (F.map featV)) (ok : FeatOK T F lab) (hl : T.length ≤ 1000) (hl2 : F.length ≤ 1000) (hw : ∃ a n c, w = .slice a n c) :
    Fn0 Tryz.prog 76 [.agg #[v, w, x, .int .i64 lab]] u fun r _ => r = .int .i64 0 := by
  obtain ⟨a, c, rfl⟩ := h.opn
  obtain ⟨a', c', rfl⟩ := hF.opn
  obtain ⟨wa, wn, wc, rfl⟩ := hw
  have hcap := hF.cap
  rw [List.length_map] at h hF hcap ⊢
  rw [List.length_map]
  refine Fn0.of Tryz.func76 (by kernel_rfl) (by kernel_rfl) ?_
  refine G.loop (ι := Nat) (fun i => [(1, .p 0 0), (9, .v (.slice a' F.length c')), (10, .v (.int .i64 (F.length : Int))), (11, .v (.int .i64 (i : Int)))]) (fun _ => [(0, ⟨30, [.v (.slice a T.length c), .v (.slice wa wn wc), .v (.slice a' F.length c'), .v (.int .i64 lab)]⟩)])
    (fun i u' m' => i ≤ F.length ∧ m' = PH.mt) (fun i => F.length - i) 0 (by kernel_rfl) (fun _ => by kernel_rfl) ⟨by kernel_rfl, by kernel_rfl, by kernel_rfl⟩ ⟨by omega, rfl⟩ ?_
  rintro J i hJ u1 m1 l1 ⟨hi, rfl⟩
  by_cases hlt : i < F.length
  · refine G.lssT (i : Int) (F.length : Int) (by kernel_rfl) (by omega) ?_
    have hTi : F[i]? = some F[i] := List.getElem?_eq_getElem hlt
    obtain ⟨n, k, hk, hkind, hlab⟩ := ok.ok F[i] (List.getElem_mem hlt)
    have hdiff : ∀ f ∈ F.take i, f.1 ≠ (F[i]).1 := by
      intro f hf
      obtain ⟨j, hj, rfl⟩ := List.getElem_of_mem hf
      rw [List.length_take] at hj
      rw [List.getElem_take]
      intro e
      have := (List.getElem_inj (xs := F.map (·.1)) (h₀ := by rw [List.length_map]; omega) (h₁ := by rw [List.length_map]; omega) (i := j) (j := i) ok.nodup).1 (by rw [List.getElem_map, List.getElem_map]; exact e)
      omega
    obtain ⟨ba, oa, rfl, ea⟩ := ListP.at' (hF.mono l1) (j := i) (e := featV F[i]) (by simp [hTi])
    have hTk := (hF.mono l1).take' i (by rw [List.length_map]; omega)
    rw [← List.map_take] at hTk
    have htl : (F.take i).length = i := by rw [List.length_take]; omega
    generalize F[i] = f at ea hk hkind hlab hdiff
    obtain ⟨hkl, hkx⟩ := List.getElem?_eq_some_iff.1 hk
    obtain ⟨bb, ob, rfl, eb⟩ := ListP.at' (h.mono l1) (j := f.1) (e := attV (n, k)) (by simp [hk])
    refine G.addr ba oa F.length c' i 3 (by kernel_rfl) hlt ?_
    refine G.loadU (some 3) ba (oa + i * 3) (.agg #[.int .i64 (f.1 : Int), .int .i64 (f.2.1 : Int), .int .i64 (f.2.2 : Int)]) (by kernel_rfl) (by kernel_rfl) ea ?_
    refine G.lssF (f.1 : Int) 0 (by kernel_rfl) (by omega) ?_
    refine G.geqF (f.1 : Int) (T.length : Int) (by kernel_rfl) (by omega) ?_
    refine G.addr bb ob T.length c f.1 2 (by kernel_rfl) hkl ?_
    refine G.fieldA 77 bb (ob + f.1 * 2) 1 1 (by kernel_rfl) (by kernel_rfl) ?_
    refine G.loadU none bb (ob + f.1 * 2 + 1) (.int .i64 (k : Int)) (by kernel_rfl) (by kernel_rfl) (elP_att2 eb) ?_
    rcases hkind with ⟨k1, k2, k3⟩ | ⟨k1, k2, k3⟩
    · refine G.eqlT (f.2.1 : Int) 1 (by kernel_rfl) (by omega) ?_
      refine G.eqlT (k : Int) 2 (by kernel_rfl) (by omega) ?_
      by_cases k0 : f.2.2 = 0
      · refine G.eqlT (f.2.2 : Int) 0 (by kernel_rfl) (by omega) ?_
        refine G.eqlF (f.2.1 : Int) 2 (by kernel_rfl) (by omega) ?_
        refine G.pastI ?_
        refine G.pub 3003 50 [.int .i64 (f.1 : Int), .int .i64 (f.2.1 : Int), .int .i64 (f.2.2 : Int)] (by kernel_rfl) (by kernel_rfl) ?_
        intro e2 hu2 hm2
        refine G.fieldA 50 e2 0 0 0 (by kernel_rfl) (by kernel_rfl) ?_
        refine G.loadM none e2 (0 + 0) (.int .i64 (f.1 : Int)) (by kernel_rfl) (by kernel_rfl) (elP_f0 (g := f) (elP_upd rfl)) ?_
        refine G.eqlF (f.1 : Int) lab (by kernel_rfl) hlab ?_
        refine G.sliceTo 3 (some ⟨ba, oa, none⟩) F.length c' i (by kernel_rfl) (by omega) ?_
        refine G.callK _ _ (by kernel_rfl) Tryz.call123 (fContainsNo0 hTk (by rw [List.length_take]; omega) Tryz.call124 fun f' hf' u' _ => sameAtt0 (g := f) (elP_upd rfl) (hdiff f' hf')) ?_
        rintro v2 u2 l2 rfl
        refine G.drop PH.mt (by kernel_rfl) (PH.mt_le _) ?_
        refine G.add (i : Int) 1 ((i + 1 : Nat) : Int) (by kernel_rfl) (by omega) (by omega) (by omega) ?_
        exact G.back (by kernel_rfl) (hJ (i + 1) _ _ _ ⟨by kernel_rfl, by kernel_rfl, by kernel_rfl⟩ (l1.trans l2) ⟨by omega, rfl⟩ (by omega))
      · refine G.eqlF (f.2.2 : Int) 0 (by kernel_rfl) (by omega) ?_
        refine G.eqlT (f.2.2 : Int) 1 (by kernel_rfl) (by omega) ?_
        refine G.eqlF (f.2.1 : Int) 2 (by kernel_rfl) (by omega) ?_
        refine G.pastI ?_
        refine G.pub 3003 50 [.int .i64 (f.1 : Int), .int .i64 (f.2.1 : Int), .int .i64 (f.2.2 : Int)] (by kernel_rfl) (by kernel_rfl) ?_
        intro e2 hu2 hm2
        refine G.fieldA 50 e2 0 0 0 (by kernel_rfl) (by kernel_rfl) ?_
        refine G.loadM none e2 (0 + 0) (.int .i64 (f.1 : Int)) (by kernel_rfl) (by kernel_rfl) (elP_f0 (g := f) (elP_upd rfl)) ?_
        refine G.eqlF (f.1 : Int) lab (by kernel_rfl) hlab ?_
        refine G.sliceTo 3 (some ⟨ba, oa, none⟩) F.length c' i (by kernel_rfl) (by omega) ?_
        refine G.callK _ _ (by kernel_rfl) Tryz.call123 (fContainsNo0 hTk (by rw [List.length_take]; omega) Tryz.call124 fun f' hf' u' _ => sameAtt0 (g := f) (elP_upd rfl) (hdiff f' hf')) ?_
        rintro v2 u2 l2 rfl
        refine G.drop PH.mt (by kernel_rfl) (PH.mt_le _) ?_
        refine G.add (i : Int) 1 ((i + 1 : Nat) : Int) (by kernel_rfl) (by omega) (by omega) (by omega) ?_
        exact G.back (by kernel_rfl) (hJ (i + 1) _ _ _ ⟨by kernel_rfl, by kernel_rfl, by kernel_rfl⟩ (l1.trans l2) ⟨by omega, rfl⟩ (by omega))
    · refine G.eqlF (f.2.1 : Int) 1 (by kernel_rfl) (by omega) ?_
      refine G.eqlT (f.2.1 : Int) 2 (by kernel_rfl) (by omega) ?_
      refine G.eqlT (k : Int) 3 (by kernel_rfl) (by omega) ?_
      refine G.eqlT (f.2.2 : Int) 0 (by kernel_rfl) (by omega) ?_
      refine G.pastI ?_
      refine G.pub 3003 50 [.int .i64 (f.1 : Int), .int .i64 (f.2.1 : Int), .int .i64 (f.2.2 : Int)] (by kernel_rfl) (by kernel_rfl) ?_
      intro e2 hu2 hm2
      refine G.fieldA 50 e2 0 0 0 (by kernel_rfl) (by kernel_rfl) ?_
      refine G.loadM none e2 (0 + 0) (.int .i64 (f.1 : Int)) (by kernel_rfl) (by kernel_rfl) (elP_f0 (g := f) (elP_upd rfl)) ?_
      refine G.eqlF (f.1 : Int) lab (by kernel_rfl) hlab ?_
      refine G.sliceTo 3 (some ⟨ba, oa, none⟩) F.length c' i (by kernel_rfl) (by omega) ?_
      refine G.callK _ _ (by kernel_rfl) Tryz.call123 (fContainsNo0 hTk (by rw [List.length_take]; omega) Tryz.call124 fun f' hf' u' _ => sameAtt0 (g := f) (elP_upd rfl) (hdiff f' hf')) ?_
      rintro v2 u2 l2 rfl
      refine G.drop PH.mt (by kernel_rfl) (PH.mt_le _) ?_
      refine G.add (i : Int) 1 ((i + 1 : Nat) : Int) (by kernel_rfl) (by omega) (by omega) (by omega) ?_
      exact G.back (by kernel_rfl) (hJ (i + 1) _ _ _ ⟨by kernel_rfl, by kernel_rfl, by kernel_rfl⟩ (l1.trans l2) ⟨by omega, rfl⟩ (by omega))
  · obtain rfl : i = F.length := by omega
    refine G.lssF (F.length : Int) (F.length : Int) (by kernel_rfl) (by omega) ?_
    exact G.ret (.int .i64 0) (by kernel_rfl) ⟨rfl, rfl⟩
end Go.Proofs.YtikfmknnbjocmaaGreatDoor
end
section
set_option linter.unusedSectionVars false
set_option linter.unusedVariables false
namespace Go.Proofs.YtikfmknnbjocmaaGreatDoor
open Go.RowKit Go.MapKept
theorem bIndex0 {u m : PH} {b n c : Nat} {L : List Bool} (hn : n = L.length) (hl : n ≤ 1000000) (hE : ∀ (j : Nat) s, L[j]? = some s → ElP m b (0 + j * 1) (.bool s)) (hx : ∀ s ∈ L, s = true) :
    FnK Tryz.prog 156 [.slice (some ⟨b, 0, none⟩) n c, .bool false] u m fun v _ => v = .int .i64 (-1) := by
  refine FnK.of Tryz.func156 (by kernel_rfl) (by kernel_rfl) ?_
  refine G.loop (ι := Nat) (fun i => [(0, .v (.slice (some ⟨b, 0, none⟩) n c)), (1, .v (.bool false)), (7, .v (.int .i64 (n : Int))), (8, .v (.int .i64 (i : Int)))]) (fun _ => [])
    (fun i u' m' => i ≤ n ∧ m' = m) (fun i => n - i) 0 (by kernel_rfl) (fun _ => by kernel_rfl) ⟨by kernel_rfl, by kernel_rfl, by kernel_rfl⟩ ⟨by omega, rfl⟩ ?_
  rintro J i hJ u1 m1 l1 ⟨hi, rfl⟩
  by_cases hlt : i < n
  · refine G.lssT (i : Int) (n : Int) (by kernel_rfl) (by omega) ?_
    have hTi : L[i]? = some true := by
      rw [List.getElem?_eq_getElem (by omega)]
      exact congrArg some (hx _ (List.getElem_mem (by omega)))
    refine G.addr b 0 n c i 1 (by kernel_rfl) hlt ?_
    refine G.loadM none b (0 + i * 1) (.bool true) (by kernel_rfl) (by kernel_rfl) (hE i _ hTi) ?_
    refine G.eqB false true (by kernel_rfl) ?_
    refine G.add (i : Int) 1 ((i + 1 : Nat) : Int) (by kernel_rfl) (by omega) (by omega) (by omega) ?_
    exact G.back (by kernel_rfl) (hJ (i + 1) _ _ _ ⟨by kernel_rfl, by kernel_rfl, by kernel_rfl⟩ l1 ⟨by omega, rfl⟩ (by omega))
  · obtain rfl : i = n := by omega
    refine G.lssF (i : Int) (i : Int) (by kernel_rfl) (by omega) ?_
    exact G.ret (.int .i64 (-1)) (by kernel_rfl) ⟨rfl, rfl⟩
theorem bContains0 {u m : PH} {b n c : Nat} {L : List Bool} (hn : n = L.length) (hl : n ≤ 1000000) (hE : ∀ (j : Nat) s, L[j]? = some s → ElP m b (0 + j * 1) (.bool s)) (hx : ∀ s ∈ L, s = true) :
    FnK Tryz.prog 122 [.slice (some ⟨b, 0, none⟩) n c, .bool false] u m fun v _ => v = .bool false := by
  refine FnK.of Tryz.func122 (by kernel_rfl) (by kernel_rfl) ?_
  refine G.callK _ _ (by kernel_rfl) Tryz.call156 (bIndex0 (c := c) (L := L) hn hl hE hx) ?_
  rintro v1 u1 l1 rfl
  refine G.geqF (-1) 0 (by kernel_rfl) (by omega) ?_
  exact G.ret (.bool false) (by kernel_rfl) ⟨rfl, rfl⟩
abbrev SRel : Type := List UInt8 × List Nat × (Option Addr × Nat)
def relV (r : SRel) : Value := .agg #[.string (mkS r.1), .slice r.2.2.1 r.2.1.length r.2.2.2]
structure RelOK (u : PH) (n : Nat) (R : List SRel) : Prop where
  names : Names (R.map (·.1))
  ne : ∀ r ∈ R, r.2.1 ≠ []
  lt : ∀ r ∈ R, ∀ a ∈ r.2.1, a < n
  len : ∀ r ∈ R, r.2.1.length ≤ 1000
  asc : ∀ r ∈ R, ∀ (k : Nat) x y, r.2.1[k]? = some x → r.2.1[k + 1]? = some y → x < y
  all : ∀ a < n, ∃ r ∈ R, a ∈ r.2.1
  at' : ∀ r ∈ R, ListP u (.slice r.2.2.1 r.2.1.length r.2.2.2) 1 (intsV r.2.1)
def uArr (g n : Nat) (L : List Bool) : Arr := ⟨.slice (some ⟨g, 0, none⟩) n n, 4, 1, L.map .bool⟩
def nArr (a : Option Addr) (c : Nat) (L : List (List UInt8)) : Arr := ⟨.slice a L.length c, 9, 1, L.map nmV⟩
theorem uArr_at {g n : Nat} {L : List Bool} {m0 m : PH} : (uArr g n L).At m0 m = ArrAt m0 m (.slice (some ⟨g, 0, none⟩) n n) 4 1 (L.map .bool) := rfl
theorem nArr_at {a : Option Addr} {c : Nat} {L : List (List UInt8)} {m0 m : PH} : (nArr a c L).At m0 m = ArrAt m0 m (.slice a L.length c) 9 1 (L.map nmV) := rfl
theorem map_bool_set (L : List Bool) (a : Nat) : (L.map Value.bool).set a (.bool true) = (L.set a true).map Value.bool := by rw [List.map_set]
set_option maxHeartbeats 4000000 in
theorem relations0 {u : PH} {w x y : Value} {a0 : Option Addr} {n c0 : Nat} {R : List SRel} (hR : ListP u w 2 (R.map relV)) (ok : RelOK u n R) (hn : n ≤ 1000) (hn0 : 0 < n) (hl : R.length ≤ 1000) (hx : ∃ a n c, x = .slice a n c) (hy : ∃ z : Int, y = .int .i64 z) :
    Fn0 Tryz.prog 75 [.agg #[.slice a0 n c0, w, x, y]] u fun r _ => r = .int .i64 0 := by
  obtain ⟨a, c, rfl⟩ := hR.opn
  obtain ⟨xa, xn, xc, rfl⟩ := hx
  obtain ⟨z, rfl⟩ := hy
  rw [List.length_map] at hR ⊢
  refine Fn0.of Tryz.func75 (by kernel_rfl) (by kernel_rfl) ?_
  refine G.make 4 1 1 (.bool false) n (by kernel_rfl) rfl rfl (by omega) (by omega) (by omega) ?_
  rintro v1 m1 hA1 ⟨ad, rfl⟩
  obtain ⟨g, rfl, _⟩ := hA1.some'
  refine G.loop (ι := Nat × List Bool × List (List UInt8) × (Option Addr × Nat)) (fun i => [(3, .v (.slice i.2.2.2.1 i.2.2.1.length i.2.2.2.2)), (4, .v (.slice (some ⟨g, 0, none⟩) n n)), (16, .v (.slice a R.length c)), (17, .v (.int .i64 (R.length : Int))), (18, .v (.int .i64 (i.1 : Int)))]) (fun _ => [])
    (fun i u' m' => i.1 ≤ R.length ∧ i.2.1.length = n ∧ i.2.2.1 = (R.map (·.1)).take i.1 ∧ (∀ r ∈ R.take i.1, ∀ q ∈ r.2.1, i.2.1[q]? = some true) ∧ Bag m' [uArr g n i.2.1, nArr i.2.2.2.1 i.2.2.2.2 i.2.2.1]) (fun i => R.length - i.1) (0, List.replicate n false, [], (none, 0)) (by kernel_rfl) (fun _ => by kernel_rfl) ⟨by kernel_rfl, by kernel_rfl, by kernel_rfl⟩
    ⟨by simp, by simp, by simp, by simp, ⟨PH.mt, by rw [uArr_at, List.map_replicate]; exact hA1, PH.mt, ArrAt.nil _ _ _, trivial⟩⟩ ?_
  rintro J ⟨i, L, N, ⟨na, nc⟩⟩ hJ u2 m2 l2 ⟨hi, hL, hN, hall, hbag⟩
  simp only at hi hL hN hall hbag hJ
  by_cases hlt : i < R.length
  · refine G.lssT (i : Int) (R.length : Int) (by kernel_rfl) (by omega) ?_
    have hTi : R[i]? = some R[i] := List.getElem?_eq_getElem hlt
    have hmem : R[i] ∈ R := List.getElem_mem hlt
    have htk : (R.map (·.1)).take (i + 1) = N ++ [R[i].1] := by
      rw [List.take_add_one, List.getElem?_map, hTi, hN]; rfl
    have htk2 : R.take (i + 1) = R.take i ++ [R[i]] := by
      rw [List.take_add_one, hTi]; rfl
    have hnames := ok.names.take (i + 1)
    rw [htk] at hnames
    have hlen : N.length = i := by rw [hN]; simp; omega
    obtain ⟨ba, oa, rfl, ea⟩ := ListP.at' (hR.mono l2) (j := i) (e := relV R[i]) (by simp [hTi])
    generalize R[i] = q at ea hmem htk htk2 hnames
    obtain ⟨qs, ql, qa, qc⟩ := q
    have hne : ql ≠ [] := ok.ne _ hmem
    have hlq : ∀ p ∈ ql, p < n := ok.lt _ hmem
    have hql : ql.length ≤ 1000 := ok.len _ hmem
    have hasc : ∀ (k : Nat) x y, ql[k]? = some x → ql[k + 1]? = some y → x < y := ok.asc _ hmem
    have hqat : ListP u2 (.slice qa ql.length qc) 1 (intsV ql) := (ok.at' _ hmem).mono l2
    have hq0 : 0 < ql.length := List.length_pos_iff.2 hne
    simp only at htk hnames
    refine G.addr ba oa R.length c i 2 (by kernel_rfl) hlt ?_
    refine G.loadU (some 2) ba (oa + i * 2) (.agg #[.string (mkS qs), .slice qa ql.length qc]) (by kernel_rfl) (by kernel_rfl) ea ?_
    refine G.buildU 9 1 16 (.string (mkS [])) [.string (mkS qs)] (by kernel_rfl) (nmV_ok [qs]) rfl (by omega) (by simp) (by simp) ?_
    intro g3 u3 l3 e3
    obtain ⟨mm, hx0, hput⟩ := hbag.focus 1 rfl
    rw [nArr_at] at hx0
    refine G.append 9 1 16 (.string (mkS [])) mm (N.map nmV) [.string (mkS qs)] (.slice na N.length nc) g3 0 1 1 (by kernel_rfl) rfl rfl (by omega) hx0 e3 (nmV_ok [qs]) rfl (by omega) (by simp; omega) (by simp; omega) ?_
    intro v4 m4 hA4
    rw [show N.map nmV ++ [.string (mkS qs)] = (N ++ [qs]).map nmV by rw [List.map_append]; rfl] at hA4
    obtain ⟨b4, c4, rfl⟩ := hA4.ptr (by simp)
    have hcap := hA4.cap
    rw [List.length_map] at hA4 hcap ⊢
    have hbag4 := hput (nArr (some ⟨b4, 0, none⟩) c4 (N ++ [qs])) m4 hA4
    simp only [List.set_cons_succ, List.set_cons_zero] at hbag4
    refine G.callK _ _ (by kernel_rfl) Tryz.call121 (named0 (b := b4) (k := i) (c := c4) (x := qs) (L := N ++ [qs]) hnames (by simp; omega) hcap (by rw [← hlen]; exact getElem?_snoc_last N qs) fun j s hs => hA4.el (by rw [List.getElem?_map, hs]; rfl)) ?_
    rintro v5 u5 l5 rfl
    refine G.neqF 0 0 (by kernel_rfl) (by omega) ?_
    refine G.eqlF (ql.length : Int) 0 (by kernel_rfl) (by omega) ?_
    generalize N ++ [qs] = N' at hbag4 htk
    clear hA4 hput hx0 hbag hcap hnames
    have hlt' : ∀ p ∈ ql, p < n := hlq
    refine G.loop (ι := Nat × List Bool) (fun j => [(3, .v (.slice (some ⟨b4, 0, none⟩) N'.length c4)), (4, .v (.slice (some ⟨g, 0, none⟩) n n)), (6, .p 5003 0), (16, .v (.slice (some ⟨ba, oa, none⟩) R.length c)), (17, .v (.int .i64 (R.length : Int))), (18, .v (.int .i64 (i : Int))), (39, .v (.slice qa ql.length qc)), (40, .v (.int .i64 (ql.length : Int))), (41, .v (.int .i64 (j.1 : Int)))])
      (fun _ => [(5003, ⟨79, [.v (.string (mkS qs)), .v (.slice qa ql.length qc)]⟩)])
      (fun j u' m' => j.1 ≤ ql.length ∧ j.2.length = n ∧ (∀ r ∈ R.take i, ∀ q ∈ r.2.1, j.2[q]? = some true) ∧ (∀ q ∈ ql.take j.1, j.2[q]? = some true) ∧ Bag m' [uArr g n j.2, nArr (some ⟨b4, 0, none⟩) c4 N']) (fun j => ql.length - j.1) (0, L) (by kernel_rfl) (fun _ => by kernel_rfl) ⟨by kernel_rfl, by kernel_rfl, by kernel_rfl⟩
      ⟨by simp, hL, hall, by simp, hbag4⟩ ?_
    rintro J2 ⟨j, L2⟩ hJ2 u6 m6 l6 ⟨hj, hL2, hall2, hrow2, hbag6⟩
    simp only at hj hL2 hall2 hrow2 hbag6 hJ2
    have hqat6 := hqat.mono ((l3.trans l5).trans l6)
    by_cases hltj : j < ql.length
    · refine G.lssT (j : Int) (ql.length : Int) (by kernel_rfl) (by omega) ?_
      have hqj : ql[j]? = some ql[j] := List.getElem?_eq_getElem hltj
      have hpn : ql[j] < n := hlq _ (List.getElem_mem hltj)
      have htkj : ql.take (j + 1) = ql.take j ++ [ql[j]] := by rw [List.take_add_one, hqj]; rfl
      obtain ⟨bq, oq, rfl, eq⟩ := ListP.at' hqat6 (j := j) (e := .int .i64 (ql[j] : Int)) (by simp [intsV, hqj])
      generalize ql[j] = p at eq hpn htkj
      refine G.addr bq oq ql.length qc j 1 (by kernel_rfl) hltj ?_
      refine G.loadU none bq (oq + j * 1) (.int .i64 (p : Int)) (by kernel_rfl) (by kernel_rfl) eq ?_
      refine G.lssF (p : Int) 0 (by kernel_rfl) (by omega) ?_
      refine G.geqF (p : Int) (n : Int) (by kernel_rfl) (by omega) ?_
      refine G.addr g 0 n n p 1 (by kernel_rfl) hpn ?_
      obtain ⟨mm2, hx2, hput2⟩ := hbag6.focus 0 rfl
      rw [uArr_at] at hx2
      refine G.storeA 1 mm2 (L2.map Value.bool) g n n p (.bool true) (by kernel_rfl) hx2 (by rw [List.length_map]; omega) rfl rfl ?_
      intro m7 hA7
      rw [map_bool_set] at hA7
      have hbag7 := hput2 (uArr g n (L2.set p true)) m7 hA7
      simp only [List.set_cons_zero] at hbag7
      refine G.add (j : Int) 1 ((j + 1 : Nat) : Int) (by kernel_rfl) (by omega) (by omega) (by omega) ?_
      have hkeep : ∀ q, L2[q]? = some true → (L2.set p true)[q]? = some true := fun q hq => by
        rw [List.getElem?_set]
        split
        · subst_vars; rw [if_pos (by omega)]
        · exact hq
      exact G.back (by kernel_rfl) (hJ2 (j + 1, L2.set p true) _ _ _ ⟨by kernel_rfl, by kernel_rfl, by kernel_rfl⟩ l6 ⟨by dsimp only; omega, by simp [hL2], fun r hr q hq => hkeep q (hall2 r hr q hq), by
        intro q hq
        dsimp only at hq ⊢
        rw [htkj, List.mem_append, List.mem_singleton] at hq
        rcases hq with hq | rfl
        · exact hkeep q (hrow2 q hq)
        · rw [List.getElem?_set]; simp; omega, hbag7⟩ (by dsimp only; omega))
    · obtain rfl : j = ql.length := by omega
      refine G.lssF (ql.length : Int) (ql.length : Int) (by kernel_rfl) (by omega) ?_
      rw [List.take_length] at hrow2
      refine G.loop (ι := Nat) (fun k => [(3, .v (.slice (some ⟨b4, 0, none⟩) N'.length c4)), (4, .v (.slice (some ⟨g, 0, none⟩) n n)), (6, .p 5003 0), (10, .v (.int .i64 ((k + 1 : Nat) : Int))), (16, .v (.slice (some ⟨ba, oa, none⟩) R.length c)), (17, .v (.int .i64 (R.length : Int))), (18, .v (.int .i64 (i : Int)))])
        (fun _ => [(5003, ⟨79, [.v (.string (mkS qs)), .v (.slice qa ql.length qc)]⟩)])
        (fun k u' m' => k + 1 ≤ ql.length ∧ m' = m6) (fun k => ql.length - k) 0 (by kernel_rfl) (fun _ => by kernel_rfl) ⟨by kernel_rfl, by kernel_rfl, by kernel_rfl⟩
        ⟨by omega, rfl⟩ ?_
      rintro J3 k hJ3 u8 m8 l8 ⟨hk, rfl⟩
      have hqat8 := hqat6.mono l8
      by_cases hltk : k + 1 < ql.length
      · refine G.lssT ((k + 1 : Nat) : Int) (ql.length : Int) (by kernel_rfl) (by omega) ?_
        have hq1 : ql[k]? = some ql[k] := List.getElem?_eq_getElem (by omega)
        have hq2 : ql[k + 1]? = some ql[k + 1] := List.getElem?_eq_getElem hltk
        have hlt3 := hasc k _ _ hq1 hq2
        obtain ⟨bq, oq, rfl, eq2⟩ := ListP.at' hqat8 (j := k + 1) (e := .int .i64 (ql[k + 1] : Int)) (by simp [intsV, hq2])
        obtain ⟨_, _, e', eq1⟩ := ListP.at' hqat8 (j := k) (e := .int .i64 (ql[k] : Int)) (by simp [intsV, hq1])
        cases e'
        generalize ql[k] = p1 at eq1 hlt3
        generalize ql[k + 1] = p2 at eq2 hlt3
        refine G.addr bq oq ql.length qc (k + 1) 1 (by kernel_rfl) hltk ?_
        refine G.loadU none bq (oq + (k + 1) * 1) (.int .i64 (p2 : Int)) (by kernel_rfl) (by kernel_rfl) eq2 ?_
        refine G.sub ((k + 1 : Nat) : Int) 1 (k : Int) (by kernel_rfl) (by omega) (by omega) (by omega) ?_
        refine G.addr bq oq ql.length qc k 1 (by kernel_rfl) (by omega) ?_
        refine G.loadU none bq (oq + k * 1) (.int .i64 (p1 : Int)) (by kernel_rfl) (by kernel_rfl) eq1 ?_
        refine G.leqF (p2 : Int) (p1 : Int) (by kernel_rfl) (by omega) ?_
        refine G.add ((k + 1 : Nat) : Int) 1 ((k + 1 + 1 : Nat) : Int) (by kernel_rfl) (by omega) (by omega) (by omega) ?_
        exact G.back (by kernel_rfl) (hJ3 (k + 1) _ _ _ ⟨by kernel_rfl, by kernel_rfl, by kernel_rfl⟩ l8 ⟨by omega, rfl⟩ (by omega))
      · refine G.lssF ((k + 1 : Nat) : Int) (ql.length : Int) (by kernel_rfl) (by omega) ?_
        refine G.add (i : Int) 1 ((i + 1 : Nat) : Int) (by kernel_rfl) (by omega) (by omega) (by omega) ?_
        exact G.back (by kernel_rfl) (hJ (i + 1, L2, N', (some ⟨b4, 0, none⟩, c4)) _ _ _ ⟨by kernel_rfl, by kernel_rfl, by kernel_rfl⟩ ((((l2.trans l3).trans l5).trans l6).trans l8) ⟨by dsimp only; omega, hL2, htk.symm, by
          intro r hr q hq
          dsimp only at hr hq ⊢
          rw [htk2, List.mem_append, List.mem_singleton] at hr
          rcases hr with hr | rfl
          · exact hall2 r hr q hq
          · exact hrow2 q hq, hbag6⟩ (by dsimp only; omega))
  · obtain rfl : i = R.length := by omega
    refine G.lssF (R.length : Int) (R.length : Int) (by kernel_rfl) (by omega) ?_
    rw [List.take_length] at hall
    refine G.callK _ _ (by kernel_rfl) Tryz.call122 (bContains0 (b := g) (c := n) (L := L) hL.symm (by omega) (fun j s hs => hbag.el 0 rfl (x := uArr g n L) rfl (by show (L.map Value.bool)[j]? = _; rw [List.getElem?_map, hs]; rfl)) fun s hs => by
      obtain ⟨j, hj, rfl⟩ := List.getElem_of_mem hs
      obtain ⟨r, hr, hq⟩ := ok.all j (by omega)
      have := hall r hr j hq
      rw [List.getElem?_eq_getElem hj] at this
      exact Option.some.inj this) ?_
    rintro v3 u3 l3 rfl
    refine G.drop PH.mt (by kernel_rfl) (PH.mt_le _) ?_
    exact G.ret (.int .i64 0) (by kernel_rfl) ⟨rfl, rfl⟩
end Go.Proofs.YtikfmknnbjocmaaGreatDoor
end
section
set_option linter.unusedSectionVars false
set_option linter.unusedVariables false
namespace Go.Proofs.YtikfmknnbjocmaaGreatDoor
open Go.RowKit Go.MapKept
structure SchOK (u : PH) (T : List (List UInt8 × Nat)) (R : List SRel) (F : List Feat) (lab : Int) : Prop where
  att : AttOK T
  rel : RelOK u T.length R
  feat : FeatOK T F lab
  t1 : 0 < T.length
  t2 : T.length ≤ 12
  r1 : 0 < R.length
  r2 : R.length ≤ 6
  f2 : F.length ≤ 8
  l1 : -1 ≤ lab
  l2 : ∀ l : Nat, lab = (l : Int) → ∃ n, T[l]? = some (n, 2)
theorem RelOK.mono {u u' : PH} {n : Nat} {R : List SRel} (h : RelOK u n R) (hl : PH.le u u') : RelOK u' n R := ⟨h.names, h.ne, h.lt, h.len, h.asc, h.all, fun r hr => (h.at' r hr).mono hl⟩
theorem SchOK.mono {u u' : PH} {T : List (List UInt8 × Nat)} {R : List SRel} {F : List Feat} {lab : Int} (h : SchOK u T R F lab) (hl : PH.le u u') : SchOK u' T R F lab := ⟨h.att, h.rel.mono hl, h.feat, h.t1, h.t2, h.r1, h.r2, h.f2, h.l1, h.l2⟩
def SchP (u : PH) (v : Value) (T : List (List UInt8 × Nat)) (R : List SRel) (F : List Feat) (lab : Int) : Prop :=
  ∃ a c b d e f, v = .agg #[.slice a T.length c, .slice b R.length d, .slice e F.length f, .int .i64 lab] ∧ ListP u (.slice a T.length c) 2 (T.map attV) ∧ ListP u (.slice b R.length d) 2 (R.map relV) ∧ ListP u (.slice e F.length f) 3 (F.map featV)
theorem SchP.mono {u u' : PH} {v : Value} {T : List (List UInt8 × Nat)} {R : List SRel} {F : List Feat} {lab : Int} (h : SchP u v T R F lab) (hl : PH.le u u') : SchP u' v T R F lab := by
  obtain ⟨a, c, b, d, e, f, hv, h1, h2, h3⟩ := h
  exact ⟨a, c, b, d, e, f, hv, h1.mono hl, h2.mono hl, h3.mono hl⟩
set_option maxHeartbeats 2000000 in
theorem check0 {u : PH} {v : Value} {T : List (List UInt8 × Nat)} {R : List SRel} {F : List Feat} {lab : Int} (h : SchP u v T R F lab) (ok : SchOK u T R F lab) :
    Fn0 Tryz.prog 41 [v] u fun r _ => r = .int .i64 0 := by
  obtain ⟨a, c, b, d, e, f, rfl, hT, hR, hF⟩ := h
  have t1 := ok.t1
  have t2 := ok.t2
  have r1 := ok.r1
  have r2 := ok.r2
  have f2 := ok.f2
  have lo := ok.l1
  have hi : lab < T.length := by
    rcases Int.lt_or_le lab 0 with hlt | hge
    · omega
    · obtain ⟨n, hn⟩ := ok.l2 lab.toNat (by omega)
      obtain ⟨hk, _⟩ := List.getElem?_eq_some_iff.1 hn
      omega
  refine Fn0.of Tryz.func41 (by kernel_rfl) (by kernel_rfl) ?_
  refine G.eqlF (T.length : Int) 0 (by kernel_rfl) (by omega) ?_
  refine G.gtrF (T.length : Int) 12 (by kernel_rfl) (by omega) ?_
  refine G.eqlF (R.length : Int) 0 (by kernel_rfl) (by omega) ?_
  refine G.gtrF (R.length : Int) 6 (by kernel_rfl) (by omega) ?_
  refine G.gtrF (F.length : Int) 8 (by kernel_rfl) (by omega) ?_
  refine G.buildU 81 1 8 (.nilFunc) [.func (.func 74) #[] #[], .func (.func 75) #[] #[], .func (.func 76) #[] #[]] (by kernel_rfl) (fun x hx => by
    simp only [List.mem_cons, List.not_mem_nil, or_false] at hx
    rcases hx with rfl | rfl | rfl <;> exact ⟨rfl, List.all_eq_true.1 rfl⟩) rfl (by omega) (by simp) (by simp) ?_
  intro g u1 l1 e1
  refine G.loop (ι := Nat) (fun i => [(1, .p 0 0), (34, .v (.slice (some ⟨g, 0, none⟩) 3 3)), (35, .v (.int .i64 ((3 : Nat) : Int))), (36, .v (.int .i64 (i : Int)))])
    (fun _ => [(0, ⟨30, [.v (.slice a T.length c), .v (.slice b R.length d), .v (.slice e F.length f), .v (.int .i64 lab)]⟩)])
    (fun i u' m' => i ≤ 3 ∧ m' = PH.mt) (fun i => 3 - i) 0 (by kernel_rfl) (fun _ => by kernel_rfl) ⟨by kernel_rfl, by kernel_rfl, by kernel_rfl⟩ ⟨by omega, rfl⟩ ?_
  rintro J i hJ u2 m2 l2 ⟨hi3, rfl⟩
  have le2 := l1.trans l2
  have e2 := e1.mono l2
  by_cases hlt : i < 3
  · refine G.lssT (i : Int) ((3 : Nat) : Int) (by kernel_rfl) (by omega) ?_
    refine G.addr g 0 3 3 i 1 (by kernel_rfl) hlt ?_
    rcases (by omega : i = 0 ∨ i = 1 ∨ i = 2) with rfl | rfl | rfl
    · refine G.loadU none g (0 + 0 * 1) (.func (.func 74) #[] #[]) (by kernel_rfl) (by kernel_rfl) (e2 0 _ rfl) ?_
      refine G.call0 _ _ (by kernel_rfl) Tryz.call74 (attributes0 (w := .slice b R.length d) (x := .slice e F.length f) (y := .int .i64 lab) (hT.mono le2) ok.att (by omega) ⟨_, _, _, rfl⟩ ⟨_, _, _, rfl⟩ ⟨_, rfl⟩) ?_
      rintro v3 u3 l3 rfl
      refine G.neqF 0 0 (by kernel_rfl) (by omega) ?_
      refine G.add ((0 : Nat) : Int) 1 ((0 + 1 : Nat) : Int) (by kernel_rfl) (by omega) (by omega) (by omega) ?_
      exact G.back (by kernel_rfl) (hJ (0 + 1) _ _ _ ⟨by kernel_rfl, by kernel_rfl, by kernel_rfl⟩ (l2.trans l3) ⟨by omega, rfl⟩ (by omega))
    · refine G.loadU none g (0 + 1 * 1) (.func (.func 75) #[] #[]) (by kernel_rfl) (by kernel_rfl) (e2 1 _ rfl) ?_
      refine G.call0 _ _ (by kernel_rfl) Tryz.call75 (relations0 (a0 := a) (c0 := c) (x := .slice e F.length f) (y := .int .i64 lab) (hR.mono le2) (ok.rel.mono le2) (by omega) (by omega) (by omega) ⟨_, _, _, rfl⟩ ⟨_, rfl⟩) ?_
      rintro v3 u3 l3 rfl
      refine G.neqF 0 0 (by kernel_rfl) (by omega) ?_
      refine G.add ((1 : Nat) : Int) 1 ((1 + 1 : Nat) : Int) (by kernel_rfl) (by omega) (by omega) (by omega) ?_
      exact G.back (by kernel_rfl) (hJ (1 + 1) _ _ _ ⟨by kernel_rfl, by kernel_rfl, by kernel_rfl⟩ (l2.trans l3) ⟨by omega, rfl⟩ (by omega))
    · refine G.loadU none g (0 + 2 * 1) (.func (.func 76) #[] #[]) (by kernel_rfl) (by kernel_rfl) (e2 2 _ rfl) ?_
      refine G.call0 _ _ (by kernel_rfl) Tryz.call76 (features0 (w := .slice b R.length d) (hT.mono le2) (hF.mono le2) ok.feat (by omega) (by omega) ⟨_, _, _, rfl⟩) ?_
      rintro v3 u3 l3 rfl
      refine G.neqF 0 0 (by kernel_rfl) (by omega) ?_
      refine G.add ((2 : Nat) : Int) 1 ((2 + 1 : Nat) : Int) (by kernel_rfl) (by omega) (by omega) (by omega) ?_
      exact G.back (by kernel_rfl) (hJ (2 + 1) _ _ _ ⟨by kernel_rfl, by kernel_rfl, by kernel_rfl⟩ (l2.trans l3) ⟨by omega, rfl⟩ (by omega))
  · obtain rfl : i = 3 := by omega
    refine G.lssF ((3 : Nat) : Int) ((3 : Nat) : Int) (by kernel_rfl) (by omega) ?_
    refine G.lssF lab (-1) (by kernel_rfl) (by omega) ?_
    refine G.geqF lab (T.length : Int) (by kernel_rfl) (by omega) ?_
    rcases Int.lt_or_le lab 0 with hneg | hge
    · refine G.geqF lab 0 (by kernel_rfl) (by omega) ?_
      exact G.ret (.int .i64 0) (by kernel_rfl) ⟨rfl, rfl⟩
    · refine G.geqT lab 0 (by kernel_rfl) (by omega) ?_
      obtain ⟨l, rfl⟩ : ∃ l : Nat, lab = (l : Int) := ⟨lab.toNat, by omega⟩
      obtain ⟨n, hn⟩ := ok.l2 l rfl
      obtain ⟨bb, ob, rfl, eb⟩ := ListP.at' (hT.mono le2) (j := l) (e := attV (n, 2)) (by simp [hn])
      refine G.addr bb ob T.length c l 2 (by kernel_rfl) (by omega) ?_
      refine G.fieldA 77 bb (ob + l * 2) 1 1 (by kernel_rfl) (by kernel_rfl) ?_
      refine G.loadU none bb (ob + l * 2 + 1) (.int .i64 ((2 : Nat) : Int)) (by kernel_rfl) (by kernel_rfl) (elP_att2 eb) ?_
      refine G.neqF ((2 : Nat) : Int) 2 (by kernel_rfl) (by omega) ?_
      exact G.ret (.int .i64 0) (by kernel_rfl) ⟨rfl, rfl⟩
end Go.Proofs.YtikfmknnbjocmaaGreatDoor
end
section
set_option linter.unusedSectionVars false
set_option linter.unusedVariables false
namespace Go.Proofs.YtikfmknnbjocmaaGreatDoor
open Go.RowKit Go.MapKept
theorem lim0 (n : Nat) : (limbs n).getD 0 0 = n % 1000000000 := by
  by_cases h : n = 0
  · subst h; rw [limbs_zero]; rfl
  · rw [limbs_pos h]; rfl
theorem lim1 (n : Nat) : (limbs n).getD 1 0 = n / 1000000000 % 1000000000 := by
  by_cases h : n = 0
  · subst h; rw [limbs_zero]; rfl
  · rw [limbs_pos h]; show (limbs (n / 1000000000)).getD 0 0 = _; rw [lim0]
theorem lim_len {n : Nat} (h : n < 1000000000000000000) : (limbs n).length ≤ 2 := by
  by_cases h0 : n = 0
  · subst h0; rw [limbs_zero]; simp
  · rw [limbs_pos h0]
    by_cases h1 : n / 1000000000 = 0
    · rw [h1, limbs_zero]; simp
    · rw [limbs_pos h1, show n / 1000000000 / 1000000000 = 0 by omega, limbs_zero]; simp
theorem u64_wrapZ {z : Int} (h1 : 0 ≤ z) (h2 : z < 18446744073709551616) : IntKind.u64.wrap z = z := by
  simp only [IntKind.wrap, IntKind.signed, IntKind.bits]; simp; omega
section rules
variable {P : Program} [Mixed P] {fn : Func} {Post : Spec} {st : List KI × S} {u m : PH}
theorem G.mul64 (x y z : Int) (h : stopV P (adv P st) = .bin .mul (.int .u64 x) (.int .u64 y)) (hz : x * y = z) (h1 : 0 ≤ z) (h2 : z < 18446744073709551616)
    (k : G P fn Post (nx (adv P st) (.int .u64 z)) u m) : G P fn Post st u m :=
  G.bin _ h guard_int (fun t w => by simp [binOp, Op.intArith, hz, u64_wrapZ h1 h2]) k
theorem G.add64 (x y z : Int) (h : stopV P (adv P st) = .bin .add (.int .u64 x) (.int .u64 y)) (hz : x + y = z) (h1 : 0 ≤ z) (h2 : z < 18446744073709551616)
    (k : G P fn Post (nx (adv P st) (.int .u64 z)) u m) : G P fn Post st u m :=
  G.bin _ h guard_int (fun t w => by simp [binOp, Op.intArith, hz, u64_wrapZ h1 h2]) k
end rules
theorem natAt0 {u : PH} {v : Value} {n : Nat} (h : NatP u v n) (hn : n < 1000000000000000000) (i : Nat) : Fn0 Tryz.prog 157 [v, .int .i64 (i : Int)] u fun r _ => r = .int .u64 (((limbs n).getD i 0 : Nat) : Int) := by
  have hl := lim_len hn
  obtain ⟨a, c, rfl, _⟩ := id h
  refine Fn0.of Tryz.func157 (by kernel_rfl) (by kernel_rfl) ?_
  by_cases hlt : i < (limbs n).length
  · refine G.lssT (i : Int) ((limbs n).length : Int) (by kernel_rfl) (by omega) ?_
    obtain ⟨b, off, rfl, e⟩ := h.at hlt
    refine G.addr b off (limbs n).length c i 1 (by kernel_rfl) hlt ?_
    refine G.loadU none b (off + i * 1) _ (by kernel_rfl) (by kernel_rfl) e ?_
    exact G.ret _ (by kernel_rfl) ⟨rfl, rfl⟩
  · refine G.lssF (i : Int) ((limbs n).length : Int) (by kernel_rfl) (by omega) ?_
    rw [getD_past hlt]
    exact G.ret (.int .u64 0) (by kernel_rfl) ⟨rfl, rfl⟩
theorem natSmall0 {u : PH} {v : Value} {n : Nat} (h : NatP u v n) (hn : n < 1000000000000000000) : Fn0 Tryz.prog 158 [v] u fun r _ => r = .int .u64 (n : Int) := by
  obtain ⟨a, c, rfl, _⟩ := id h
  refine Fn0.of Tryz.func158 (by kernel_rfl) (by kernel_rfl) ?_
  refine G.call0 _ _ (by kernel_rfl) Tryz.call157 (natAt0 h hn 1) ?_
  rintro v1 u1 l1 rfl
  rw [lim1]
  refine G.mul64 ((n / 1000000000 % 1000000000 : Nat) : Int) 1000000000 _ (by kernel_rfl) rfl (by omega) (by omega) ?_
  refine G.call0 _ _ (by kernel_rfl) Tryz.call157 (natAt0 (h.mono l1) hn 0) ?_
  rintro v2 u2 l2 rfl
  rw [lim0]
  refine G.add64 (((n / 1000000000 % 1000000000 : Nat) : Int) * 1000000000) ((n % 1000000000 : Nat) : Int) (n : Int) (by kernel_rfl) (by omega) (by omega) (by omega) ?_
  exact G.ret _ (by kernel_rfl) ⟨rfl, rfl⟩
theorem numSmall0 {u : PH} {v : Value} {z : Int} (h : NumP u v z) (hz : z.natAbs < 1000000000000000000) : Fn0 Tryz.prog 126 [v] u fun r _ => r = .tuple #[.int .i64 z, .bool true] := by
  obtain ⟨a, n', c, rfl, hN⟩ := h
  obtain ⟨a, c, e, _⟩ := id hN
  cases e
  have hl := lim_len hz
  generalize hn : z.natAbs = n at hN hz hl ⊢
  refine Fn0.of Tryz.func126 (by kernel_rfl) (by kernel_rfl) ?_
  refine G.gtrF ((limbs n).length : Int) 3 (by kernel_rfl) (by omega) ?_
  refine G.call0 _ _ (by kernel_rfl) Tryz.call157 (natAt0 hN hz 2) ?_
  rintro v1 u1 l1 rfl
  rw [getD_past (k := 2) (by omega)]
  refine G.cmpG .gtr .u64 ((0 : Nat) : Int) 4 false (by kernel_rfl) rfl (by simp [cmpZ]) ?_
  refine G.call0 _ _ (by kernel_rfl) Tryz.call157 (natAt0 (hN.mono l1) hz 2) ?_
  rintro v2 u2 l2 rfl
  rw [getD_past (k := 2) (by omega)]
  refine G.mul64 ((0 : Nat) : Int) 1000000000 0 (by kernel_rfl) (by omega) (by omega) (by omega) ?_
  refine G.mul64 0 1000000000 0 (by kernel_rfl) (by omega) (by omega) (by omega) ?_
  refine G.call0 _ _ (by kernel_rfl) Tryz.call158 (natSmall0 (hN.mono (l1.trans l2)) hz) ?_
  rintro v3 u3 l3 rfl
  refine G.add64 0 (n : Int) (n : Int) (by kernel_rfl) (by omega) (by omega) (by omega) ?_
  refine G.cmpG .gtr .u64 (n : Int) 4611686018427387904 false (by kernel_rfl) rfl (by simp [cmpZ]; omega) ?_
  by_cases hneg : z < 0
  · rw [decide_eq_true hneg]
    refine G.convI .u64 .i64 .u64 (n : Int) (n : Int) (by kernel_rfl) ?_ ?_
    · simp only [IntKind.wrap, IntKind.signed, IntKind.bits]; simp; omega
    refine G.neg (n : Int) z (by kernel_rfl) (by omega) (by omega) (by omega) ?_
    exact G.ret (.tuple #[.int .i64 z, .bool true]) (by kernel_rfl) ⟨rfl, rfl⟩
  · rw [decide_eq_false hneg]
    refine G.convI .u64 .i64 .u64 (n : Int) (n : Int) (by kernel_rfl) ?_ ?_
    · simp only [IntKind.wrap, IntKind.signed, IntKind.bits]; simp; omega
    obtain rfl : z = (n : Int) := by omega
    exact G.ret (.tuple #[.int .i64 (n : Int), .bool true]) (by kernel_rfl) ⟨rfl, rfl⟩
end Go.Proofs.YtikfmknnbjocmaaGreatDoor
end
section
set_option linter.unusedSectionVars false
set_option linter.unusedVariables false
namespace Go.Proofs.YtikfmknnbjocmaaGreatDoor
open Go.RowKit Go.MapKept
theorem small_dig {z : Int} (h : z.natAbs < 1000000000000000000) : Lib.nDigits z.natAbs ≤ 400 := Nat.le_trans (dig_of_lt (k := 18) (by omega) (by omega)) (by omega)
theorem intSmall0 {u : PH} {z : Int} (h : z.natAbs < 1000000000000000000) : Fn0 Tryz.prog 79 [.string (mkS (Lib.itoa z))] u fun v _ => v = .tuple #[.int .i64 z, .bool true] := by
  refine Fn0.of Tryz.func79 (by kernel_rfl) (by kernel_rfl) ?_
  refine G.call0 _ _ (by kernel_rfl) Tryz.call104 (intValid0 (small_dig h)) ?_
  rintro v1 u1 l1 rfl
  refine G.call0 _ _ (by kernel_rfl) Tryz.call125 (intRead0 (small_dig h)) ?_
  intro v2 u2 l2 k2
  obtain ⟨b2, a2, n2, c2, rfl⟩ := k2.opn
  refine G.call0 _ _ (by kernel_rfl) Tryz.call126 (numSmall0 k2 h) ?_
  rintro v3 u3 l3 rfl
  exact G.ret (.tuple #[.int .i64 z, .bool true]) (by kernel_rfl) ⟨rfl, rfl⟩
theorem parts0 {u : PH} {q : Rat} (h : Tx q) : Fn0 Tryz.prog 78 [.string (mkS (ratT q))] u fun v _ => v = .tuple #[.string (mkS (Lib.itoa q.num)), .string (mkS (Lib.itoa (q.den : Int))), .bool true] := by
  refine Fn0.of Tryz.func78 (by kernel_rfl) (by kernel_rfl) ?_
  refine G.call0 _ _ (by kernel_rfl) Tryz.call52 (ratValid0 h) ?_
  rintro v1 u1 l1 rfl
  refine G.call0 _ _ (by kernel_rfl) Tryz.call103 (cutT h) ?_
  rintro v2 u2 l2 rfl
  by_cases hd : q.den = 1
  · rw [if_pos hd, decide_eq_false (by simp [hd]), hd, show ((1 : Nat) : Int) = 1 from rfl, itoa_one]
    exact G.ret (.tuple #[.string (mkS (Lib.itoa q.num)), .string (mkS [49]), .bool true]) (by kernel_rfl) ⟨rfl, rfl⟩
  · rw [if_neg hd, decide_eq_true hd]
    exact G.ret (.tuple #[.string (mkS (Lib.itoa q.num)), .string (mkS (Lib.itoa (q.den : Int))), .bool true]) (by kernel_rfl) ⟨rfl, rfl⟩
theorem bounded0 {u : PH} {z : Int} (h : z.natAbs ≤ 1000000000) : Fn0 Tryz.prog 77 [.string (mkS (Lib.itoa z))] u fun v _ => v = .bool true := by
  refine Fn0.of Tryz.func77 (by kernel_rfl) (by kernel_rfl) ?_
  refine G.call0 _ _ (by kernel_rfl) Tryz.call79 (intSmall0 (z := z) (by omega)) ?_
  rintro v1 u1 l1 rfl
  refine G.geqT z (-1000000000) (by kernel_rfl) (by omega) ?_
  refine G.leqT z 1000000000 (by kernel_rfl) (by omega) ?_
  exact G.ret (.bool true) (by kernel_rfl) ⟨rfl, rfl⟩
structure Dat (q : Rat) : Prop where
  num : q.num.natAbs ≤ 1000000000
  den : q.den ≤ 12
theorem Dat.tx {q : Rat} (h : Dat q) : Tx q := ⟨small_dig (by have := h.num; omega), by have := small_dig (z := (q.den : Int)) (by have := h.den; omega); simpa using this⟩
theorem ratT_nil {q : Rat} : ratT q ≠ [] := by
  intro e
  unfold ratT at e
  split at e
  · by_cases h : q.num < 0
    · rw [itoa_neg h] at e; cases e
    · rw [Lib.itoa, if_neg h] at e
      exact dec_ne_nil _ e
  · simp at e
theorem valueN0 {u : PH} {s : List UInt8} {q : Rat} (h : Dat q) : Fn0 Tryz.prog 42 [attV (s, 2), .string (mkS (ratT q))] u fun v _ => v = .bool true := by
  have hd := h.den
  have hp := q.den_pos
  refine Fn0.of Tryz.func42 (by kernel_rfl) (by kernel_rfl) ?_
  refine G.eqlF ((2 : Nat) : Int) 1 (by kernel_rfl) (by omega) ?_
  refine G.eqlT ((2 : Nat) : Int) 2 (by kernel_rfl) (by omega) ?_
  refine G.call0 _ _ (by kernel_rfl) Tryz.call78 (parts0 h.tx) ?_
  rintro v1 u1 l1 rfl
  refine G.call0 _ _ (by kernel_rfl) Tryz.call79 (intSmall0 (z := (q.den : Int)) (by omega)) ?_
  rintro v2 u2 l2 rfl
  refine G.eqSF (ratT q) [] (by kernel_rfl) ratT_nil ?_
  refine G.call0 _ _ (by kernel_rfl) Tryz.call77 (bounded0 h.num) ?_
  rintro v3 u3 l3 rfl
  refine G.geqT (q.den : Int) 1 (by kernel_rfl) (by omega) ?_
  refine G.leqT (q.den : Int) 12 (by kernel_rfl) (by omega) ?_
  exact G.ret (.bool true) (by kernel_rfl) ⟨rfl, rfl⟩
end Go.Proofs.YtikfmknnbjocmaaGreatDoor
end
section
set_option linter.unusedSectionVars false
set_option linter.unusedVariables false
namespace Go.Proofs.YtikfmknnbjocmaaGreatDoor
open Go.RowKit Go.MapKept
def CF.one1 (p : Par) (q : Rat) : CF := ⟨1, setF (fun _ => 0) p q, setF (fun _ => 0) (p, p) (q * q)⟩
theorem setF_zero {κ : Type} [DecidableEq κ] (a : κ) (k : κ) : setF (fun _ => (0 : Rat)) a 0 k = 0 := by unfold setF; split <;> rfl
set_option maxHeartbeats 2000000 in
theorem oneM0 {u : PH} {x : Value} {p : Par} {q : Rat} (hx : FracP u x q) (hs : SB q) (hs2 : SB (q * q)) :
    Contract Tryz.prog 84 [parV p, x] u PH.mt fun v' u' m' => MomM m' u' v' (CF.one1 p q) 1 := by
  obtain ⟨xb, xa, xn, xc, xb', xa', xn', xc', rfl⟩ := hx.opn
  refine Contract.of Tryz.func84 (by kernel_rfl) (by kernel_rfl) ?_
  refine G.callO _ _ (by kernel_rfl) Tryz.call83 (whole0 (n := 1) (by omega) (by omega)) ?_
  rintro v1 u1 m1 l1 r1 _
  rw [mt_or]
  obtain ⟨b, a, n, c, b', a', n', c', g1, g2, o1, o2, rfl, h1, hne, rfl, h4, h5⟩ := r1
  refine G.call0 _ _ (by kernel_rfl) Tryz.call127 (fracSign0 (hx.mono l1) (Nat.le_trans hs.sz.1 (by omega))) ?_
  rintro v2 u2 l2 rfl
  by_cases hq : q = 0
  · refine G.neqF (sgn q.num) 0 (by kernel_rfl) (fun e => e (sgn0.2 hq)) ?_
    subst hq
    exact G.ret (.agg #[.bool b, .slice a n c, .bool b', .slice a' n' c', .map (some g1), .map (some g2)]) (by kernel_rfl) ⟨b, a, n, c, b', a', n', c', g1, g2, o1, o2, rfl, h1.mono l2, hne, rfl, ((h4.mf l2).up (Nat.zero_le 1) (Nat.le_refl _)).congr fun k => (setF_zero p k).symm, ((h5.mf l2).up (Nat.zero_le 1) (Nat.le_refl _)).congr fun k => by
      show (0 : Rat) = setF (fun _ => (0 : Rat)) (p, p) (0 * 0) k
      rw [show (0 : Rat) * 0 = 0 by decide +kernel, setF_zero]⟩
  · refine G.neqT (sgn q.num) 0 (by kernel_rfl) (fun e => hq (sgn0.1 e)) ?_
    obtain ⟨l, ho, q2, q3, q4⟩ := (h4.mf l2).at
    refine G.mapPut (et := 88) keyPar g1 o1 l p (.agg #[.bool xb, .slice xa xn xc, .bool xb', .slice xa' xn' xc']) (by kernel_rfl) (by kernel_rfl) (by rw [upd_ne _ _ hne, upd_same]) ho ?_
    intro o1' ho1
    have r1 := MapR.put ho q2 q3 q4 ho1 (hx.mono (l1.trans l2)) (fun _ => hq) hs.sz (Nat.le_refl _)
    refine G.call0 _ _ (by kernel_rfl) Tryz.call94 (fracMul0 (hx.mono (l1.trans l2)) (hx.mono (l1.trans l2)) hs.big hs.big) ?_
    intro v3 u3 l3 r3
    obtain ⟨yb, ya, yn, yc, yb', ya', yn', yc', rfl⟩ := r3.opn
    obtain ⟨l', ho', q2', q3', q4'⟩ := (h5.mf (l2.trans l3)).at
    refine G.mapPut (et := 88) keyPr g2 o2 l' (p, p) (.agg #[.bool yb, .slice ya yn yc, .bool yb', .slice ya' yn' yc']) (by kernel_rfl) (by kernel_rfl) (by rw [upd_ne _ _ (Ne.symm hne), upd_same]) ho' ?_
    intro o2' ho2
    have hqq : q * q ≠ 0 := fun e => by
      rcases Rat.mul_eq_zero.1 e with e | e <;> exact hq e
    have r2 := MapR.put ho' q2' q3' q4' ho2 r3 (fun _ => hqq) hs2.sz (Nat.le_refl _)
    refine G.drop ((PH.mt.upd g1 o1').upd g2 o2') (by kernel_rfl) (fun g o hg => ?_) ?_
    · by_cases e : g = g2
      · subst e; rw [upd_same] at hg ⊢; exact hg
      · rw [upd_ne _ _ e] at hg ⊢
        by_cases e : g = g1
        · subst e; rw [upd_same] at hg ⊢; exact hg
        · rw [upd_ne _ _ e] at hg; cases hg
    exact G.ret (.agg #[.bool b, .slice a n c, .bool b', .slice a' n' c', .map (some g1), .map (some g2)]) (by kernel_rfl) ⟨b, a, n, c, b', a', n', c', g1, g2, o1', o2', rfl, h1.mono (l2.trans l3), hne, rfl, r1.mf l3, r2⟩
theorem oneP0 {u : PH} {x : Value} {p : Par} {q : Rat} (hx : FracP u x q) (hs : SB q) (hs2 : SB (q * q)) :
    Fn0 Tryz.prog 84 [parV p, x] u fun v' u' => MomP u' v' (CF.one1 p q) 1 :=
  Fn0.weak (Contract.giveAll (oneM0 hx hs hs2)) fun v u' ⟨u1, m1, l1, l2, h⟩ => h.give l1 l2
end Go.Proofs.YtikfmknnbjocmaaGreatDoor
end
section
set_option linter.unusedSectionVars false
set_option linter.unusedVariables false
namespace Go.Proofs.YtikfmknnbjocmaaGreatDoor
open Go.RowKit Go.MapKept
theorem isAtt0 {u m : PH} {f : Feat} {e a : Nat} (hb : ElP m e 0 (.int .i64 (a : Int))) : FnK Tryz.prog 82 [featV f, .pointer (some ⟨e, 0, none⟩)] u m fun v _ => v = .bool (f.1 == a) := by
  refine FnK.of Tryz.func82 (by kernel_rfl) (by kernel_rfl) ?_
  refine G.loadM none e 0 (.int .i64 (a : Int)) (by kernel_rfl) (by kernel_rfl) hb ?_
  by_cases h : f.1 = a
  · refine G.eqlT (f.1 : Int) (a : Int) (by kernel_rfl) (by omega) ?_
    rw [beq_iff_eq.2 h]
    exact G.ret (.bool true) (by kernel_rfl) ⟨rfl, rfl⟩
  · refine G.eqlF (f.1 : Int) (a : Int) (by kernel_rfl) (by omega) ?_
    rw [beq_eq_false_iff_ne.2 h]
    exact G.ret (.bool false) (by kernel_rfl) ⟨rfl, rfl⟩
def attF (F : List Feat) (a : Nat) : Int := idxF (fun f : Feat => f.1 == a) F
theorem liftLab0 {u : PH} {v : Value} {T : List (List UInt8 × Nat)} {R : List SRel} {F : List Feat} {a : Nat} {q : Rat} (h : SchP u v T R F (a : Int)) (ok : SchOK u T R F (a : Int)) (hq : Tx q) (hs : SB q) (hs2 : SB (q * q)) :
    Fn0 Tryz.prog 43 [v, .int .i64 (a : Int), .string (mkS (ratT q))] u fun v' u' => MomP u' v' (CF.one1 (-1, []) q) 1 := by
  obtain ⟨pa, ca, pb, cb, pe, ce, rfl, hT, hR, hF⟩ := h
  have hfl := ok.f2
  refine Fn0.of Tryz.func43 (by kernel_rfl) (by kernel_rfl) ?_
  refine G.pastI ?_
  refine G.pub 1 3 [.int .i64 (a : Int)] (by kernel_rfl) (by kernel_rfl) ?_
  intro e hu hm
  refine G.callK _ _ (by kernel_rfl) Tryz.call81 (fIndex0 (cap := .pointer (some ⟨e, 0, none⟩)) (fun f : Feat => f.1 == a) hF (by omega) Tryz.call82 fun f _ u' _ => isAtt0 (elP_int _ _ _ _)) ?_
  rintro v1 u1 l1 rfl
  refine G.loadM none e 0 (.int .i64 (a : Int)) (by kernel_rfl) (by kernel_rfl) (elP_int _ _ _ _) ?_
  refine G.eqlT (a : Int) (a : Int) (by kernel_rfl) rfl ?_
  refine G.eqSF (ratT q) [] (by kernel_rfl) ratT_nil ?_
  refine G.loadM none e 0 (.int .i64 (a : Int)) (by kernel_rfl) (by kernel_rfl) (elP_int _ _ _ _) ?_
  refine G.eqlT (a : Int) (a : Int) (by kernel_rfl) rfl ?_
  refine G.call0 _ _ (by kernel_rfl) Tryz.call54 (fracRead0 hq) ?_
  intro v2 u2 l2 r2
  refine G.call0 _ _ (by kernel_rfl) Tryz.call84 (oneP0 (p := (-1, [])) r2 hs hs2) ?_
  intro v3 u3 l3 r3
  obtain ⟨b, x, n, c, b', x', n', c', g1, g2, rfl⟩ := momP_opn r3
  refine G.drop PH.mt (by kernel_rfl) (PH.mt_le _) ?_
  exact G.ret (.agg #[.bool b, .slice x n c, .bool b', .slice x' n' c', .map (some g1), .map (some g2)]) (by kernel_rfl) ⟨rfl, r3⟩
theorem liftNum0 {u : PH} {v : Value} {T : List (List UInt8 × Nat)} {R : List SRel} {F : List Feat} {lab : Int} {a k : Nat} {q : Rat} (h : SchP u v T R F lab) (ok : SchOK u T R F lab) (hl : (a : Int) ≠ lab) (hk : attF F a = (k : Int)) (hk2 : ∃ mi, F[k]? = some (a, 1, mi)) (hq : Tx q) (hs : SB q) (hs2 : SB (q * q)) :
    Fn0 Tryz.prog 43 [v, .int .i64 (a : Int), .string (mkS (ratT q))] u fun v' u' => MomP u' v' (CF.one1 ((k : Int), []) q) 1 := by
  obtain ⟨pa, ca, pb, cb, pe, ce, rfl, hT, hR, hF⟩ := h
  have hfl := ok.f2
  obtain ⟨mi, hmi⟩ := hk2
  refine Fn0.of Tryz.func43 (by kernel_rfl) (by kernel_rfl) ?_
  refine G.pastI ?_
  refine G.pub 1 3 [.int .i64 (a : Int)] (by kernel_rfl) (by kernel_rfl) ?_
  intro e hu hm
  refine G.callK _ _ (by kernel_rfl) Tryz.call81 (fIndex0 (cap := .pointer (some ⟨e, 0, none⟩)) (fun f : Feat => f.1 == a) hF (by omega) Tryz.call82 fun f _ u' _ => isAtt0 (elP_int _ _ _ _)) ?_
  rintro v1 u1 l1 rfl
  unfold attF at hk
  rw [hk]
  refine G.loadM none e 0 (.int .i64 (a : Int)) (by kernel_rfl) (by kernel_rfl) (elP_int _ _ _ _) ?_
  refine G.eqlF (a : Int) lab (by kernel_rfl) hl ?_
  refine G.loadM none e 0 (.int .i64 (a : Int)) (by kernel_rfl) (by kernel_rfl) (elP_int _ _ _ _) ?_
  refine G.eqlF (a : Int) lab (by kernel_rfl) hl ?_
  refine G.lssF (k : Int) 0 (by kernel_rfl) (by omega) ?_
  obtain ⟨bb, ob, rfl, eb⟩ := ListP.at' (hF.mono l1) (j := k) (e := featV (a, 1, mi)) (by simp [hmi])
  obtain ⟨hkl, _⟩ := List.getElem?_eq_some_iff.1 hmi
  refine G.addr bb ob F.length ce k 3 (by kernel_rfl) hkl ?_
  refine G.loadU (some 3) bb (ob + k * 3) (.agg #[.int .i64 (a : Int), .int .i64 ((1 : Nat) : Int), .int .i64 (mi : Int)]) (by kernel_rfl) (by kernel_rfl) eb ?_
  refine G.eqlF ((1 : Nat) : Int) 2 (by kernel_rfl) (by omega) ?_
  refine G.eqSF (ratT q) [] (by kernel_rfl) ratT_nil ?_
  refine G.eqSF (ratT q) [] (by kernel_rfl) ratT_nil ?_
  refine G.call0 _ _ (by kernel_rfl) Tryz.call54 (fracRead0 hq) ?_
  intro v2 u2 l2 r2
  refine G.call0 _ _ (by kernel_rfl) Tryz.call84 (oneP0 (p := ((k : Int), [])) r2 hs hs2) ?_
  intro v3 u3 l3 r3
  obtain ⟨b, x, n, c, b', x', n', c', g1, g2, rfl⟩ := momP_opn r3
  refine G.drop PH.mt (by kernel_rfl) (PH.mt_le _) ?_
  exact G.ret (.agg #[.bool b, .slice x n c, .bool b', .slice x' n' c', .map (some g1), .map (some g2)]) (by kernel_rfl) ⟨rfl, r3⟩
end Go.Proofs.YtikfmknnbjocmaaGreatDoor
end
section
set_option linter.unusedSectionVars false
set_option linter.unusedVariables false
namespace Go.Proofs.YtikfmknnbjocmaaGreatDoor
open Go.RowKit Go.MapKept
set_option maxHeartbeats 1000000 in
theorem sum0 {u : PH} {v : Value} {F : CF} {K : Nat} (p : Par) (h : CofP u v F K) (hK : K ≤ 1000000) : Fn0 Tryz.prog 18 [v, parV p] u fun r _ => r = .string (mkS (ratT (F.s p))) := by
  obtain ⟨T, Q, a1, c1, a2, c2, rfl, hT, hQ, cT, cQ, kT, kQ⟩ := h
  refine Fn0.of Tryz.func18 (by kernel_rfl) (by kernel_rfl) ?_
  refine G.loop (ι := Nat) (fun i => [(3, .p 1 0), (8, .v (.slice a1 T.length c1)), (9, .v (.int .i64 (T.length : Int))), (10, .v (.int .i64 (i : Int)))]) (fun _ => [(1, ⟨43, [.v (.int .i64 p.1), .v (.string (mkS p.2))]⟩)])
    (fun i u' m' => i ≤ T.length ∧ (∀ j (hj : j < T.length), j < i → (T[j]'hj).1 ≠ p) ∧ m' = PH.mt) (fun i => T.length - i) 0 (by kernel_rfl) (fun _ => by kernel_rfl) ⟨by kernel_rfl, by kernel_rfl, by kernel_rfl⟩ ⟨by omega, fun j hj h => by omega, rfl⟩ ?_
  rintro J i hJ u1 m1 l1 ⟨hi, h0, rfl⟩
  by_cases hlt : i < T.length
  · refine G.lssT (i : Int) (T.length : Int) (by kernel_rfl) (by omega) ?_
    have hTi : T[i]? = some T[i] := List.getElem?_eq_getElem hlt
    have hval := (cT.val _ (List.getElem_mem hlt)).1
    obtain ⟨ba, oa, rfl, ea⟩ := ListP.at' (hT.mono l1) (j := i) (e := termV T[i]) (by simp [hTi])
    refine G.addr ba oa T.length c1 i 3 (by kernel_rfl) (by omega) ?_
    refine G.loadU (some 3) ba (oa + i * 3) (.agg #[.int .i64 T[i].1.1, .string (mkS T[i].1.2), .string (mkS (ratT T[i].2))]) (by kernel_rfl) (by kernel_rfl) ea ?_
    by_cases he : T[i].1 = p
    · refine G.eqAgg 43 #[.int .i64 T[i].1.1, .string (mkS T[i].1.2)] #[.int .i64 p.1, .string (mkS p.2)] true (by kernel_rfl) (by kernel_rfl) (by kernel_rfl) (fun w => by rw [← decide_eq_true he]; exact keyPar.eq T[i].1 p w) ?_
      exact G.ret (.string (mkS (ratT T[i].2))) (by kernel_rfl) ⟨rfl, by rw [hval, he]⟩
    · refine G.eqAgg 43 #[.int .i64 T[i].1.1, .string (mkS T[i].1.2)] #[.int .i64 p.1, .string (mkS p.2)] false (by kernel_rfl) (by kernel_rfl) (by kernel_rfl) (fun w => by rw [← decide_eq_false he]; exact keyPar.eq T[i].1 p w) ?_
      refine G.add (i : Int) 1 ((i + 1 : Nat) : Int) (by kernel_rfl) (by omega) (by omega) (by omega) ?_
      exact G.back (by kernel_rfl) (hJ (i + 1) _ _ _ ⟨by kernel_rfl, by kernel_rfl, by kernel_rfl⟩ l1 ⟨by omega, fun j hj h => by
        rcases (by omega : j < i ∨ j = i) with e | rfl
        · exact h0 j hj e
        · exact he, rfl⟩ (by omega))
  · obtain rfl : i = T.length := by omega
    refine G.lssF (T.length : Int) (T.length : Int) (by kernel_rfl) (by omega) ?_
    have hz : F.s p = 0 := cT.out p fun hm => by
      obtain ⟨x, hx, e⟩ := List.mem_map.1 hm
      obtain ⟨j, hj, rfl⟩ := List.getElem_of_mem hx
      exact h0 j hj hj e
    exact G.ret (.string (mkS [48])) (by kernel_rfl) ⟨rfl, by rw [hz, ratT_zero]⟩
set_option maxHeartbeats 4000000 in
theorem product0 {u : PH} {v : Value} {F : CF} {K : Nat} (p q : Par) (h : CofP u v F K) (hK : K ≤ 1000000) : Fn0 Tryz.prog 20 [v, parV p, parV q] u fun r _ => r = .string (mkS (ratT (F.t (pairP p q)))) := by
  obtain ⟨T, Q, a1, c1, a2, c2, rfl, hT, hQ, cT, cQ, kT, kQ⟩ := h
  refine Fn0.of Tryz.func20 (by kernel_rfl) (by kernel_rfl) ?_
  by_cases hsw : cmpP q p < 0
  · rw [show pairP p q = (q, p) by unfold pairP; rw [if_pos ((ordP.sym _ _).1 hsw)]]
    refine G.call0 _ _ (by kernel_rfl) Tryz.call35 (less0 q p true (decide_eq_true hsw)) ?_
    rintro v0 u0 l0 rfl
    refine G.loop (ι := Nat) (fun i => [(4, .p 1 0), (5, .p 2 0), (15, .v (.slice a2 Q.length c2)), (16, .v (.int .i64 (Q.length : Int))), (17, .v (.int .i64 (i : Int)))]) (fun _ => [(1, ⟨43, [.v (.int .i64 q.1), .v (.string (mkS q.2))]⟩), (2, ⟨43, [.v (.int .i64 p.1), .v (.string (mkS p.2))]⟩)])
      (fun i u' m' => i ≤ Q.length ∧ (∀ j (hj : j < Q.length), j < i → (Q[j]'hj).1 ≠ (q, p)) ∧ m' = PH.mt) (fun i => Q.length - i) 0 (by kernel_rfl) (fun _ => by kernel_rfl) ⟨by kernel_rfl, by kernel_rfl, by kernel_rfl⟩ ⟨by omega, fun j hj h => by omega, rfl⟩ ?_
    rintro J i hJ u1 m1 l1 ⟨hi, h0, rfl⟩
    by_cases hlt : i < Q.length
    · refine G.lssT (i : Int) (Q.length : Int) (by kernel_rfl) (by omega) ?_
      have hTi : Q[i]? = some Q[i] := List.getElem?_eq_getElem hlt
      have hval := (cQ.val _ (List.getElem_mem hlt)).1
      obtain ⟨ba, oa, rfl, ea⟩ := ListP.at' (hQ.mono (l0.trans l1)) (j := i) (e := prtV Q[i]) (by simp [hTi])
      have hback : Q[i].1 ≠ (q, p) → ∀ j (hj : j < Q.length), j < i + 1 → (Q[j]'hj).1 ≠ (q, p) := fun hne j hj h => by
        rcases (by omega : j < i ∨ j = i) with e | rfl
        · exact h0 j hj e
        · exact hne
      refine G.addr ba oa Q.length c2 i 5 (by kernel_rfl) (by omega) ?_
      refine G.loadU (some 5) ba (oa + i * 5) (.agg #[.int .i64 Q[i].1.1.1, .string (mkS Q[i].1.1.2), .int .i64 Q[i].1.2.1, .string (mkS Q[i].1.2.2), .string (mkS (ratT Q[i].2))]) (by kernel_rfl) (by kernel_rfl) ea ?_
      by_cases he : Q[i].1.1 = q
      · refine G.eqAgg 43 #[.int .i64 Q[i].1.1.1, .string (mkS Q[i].1.1.2)] #[.int .i64 q.1, .string (mkS q.2)] true (by kernel_rfl) (by kernel_rfl) (by kernel_rfl) (fun w => by rw [← decide_eq_true he]; exact keyPar.eq Q[i].1.1 q w) ?_
        by_cases he2 : Q[i].1.2 = p
        · refine G.eqAgg 43 #[.int .i64 Q[i].1.2.1, .string (mkS Q[i].1.2.2)] #[.int .i64 p.1, .string (mkS p.2)] true (by kernel_rfl) (by kernel_rfl) (by kernel_rfl) (fun w => by rw [← decide_eq_true he2]; exact keyPar.eq Q[i].1.2 p w) ?_
          exact G.ret (.string (mkS (ratT Q[i].2))) (by kernel_rfl) ⟨rfl, by rw [hval, show Q[i].1 = (q, p) from Prod.ext he he2]⟩
        · refine G.eqAgg 43 #[.int .i64 Q[i].1.2.1, .string (mkS Q[i].1.2.2)] #[.int .i64 p.1, .string (mkS p.2)] false (by kernel_rfl) (by kernel_rfl) (by kernel_rfl) (fun w => by rw [← decide_eq_false he2]; exact keyPar.eq Q[i].1.2 p w) ?_
          refine G.add (i : Int) 1 ((i + 1 : Nat) : Int) (by kernel_rfl) (by omega) (by omega) (by omega) ?_
          exact G.back (by kernel_rfl) (hJ (i + 1) _ _ _ ⟨by kernel_rfl, by kernel_rfl, by kernel_rfl⟩ l1 ⟨by omega, hback fun e => he2 (congrArg Prod.snd e), rfl⟩ (by omega))
      · refine G.eqAgg 43 #[.int .i64 Q[i].1.1.1, .string (mkS Q[i].1.1.2)] #[.int .i64 q.1, .string (mkS q.2)] false (by kernel_rfl) (by kernel_rfl) (by kernel_rfl) (fun w => by rw [← decide_eq_false he]; exact keyPar.eq Q[i].1.1 q w) ?_
        refine G.add (i : Int) 1 ((i + 1 : Nat) : Int) (by kernel_rfl) (by omega) (by omega) (by omega) ?_
        exact G.back (by kernel_rfl) (hJ (i + 1) _ _ _ ⟨by kernel_rfl, by kernel_rfl, by kernel_rfl⟩ l1 ⟨by omega, hback fun e => he (congrArg Prod.fst e), rfl⟩ (by omega))
    · obtain rfl : i = Q.length := by omega
      refine G.lssF (Q.length : Int) (Q.length : Int) (by kernel_rfl) (by omega) ?_
      have hz : F.t (q, p) = 0 := cQ.out (q, p) fun hm => by
        obtain ⟨x, hx, e⟩ := List.mem_map.1 hm
        obtain ⟨j, hj, rfl⟩ := List.getElem_of_mem hx
        exact h0 j hj hj e
      exact G.ret (.string (mkS [48])) (by kernel_rfl) ⟨rfl, by rw [hz, ratT_zero]⟩
  · rw [show pairP p q = (p, q) by unfold pairP; rw [if_neg fun e => hsw ((ordP.sym _ _).2 e)]]
    refine G.call0 _ _ (by kernel_rfl) Tryz.call35 (less0 q p false (decide_eq_false hsw)) ?_
    rintro v0 u0 l0 rfl
    refine G.loop (ι := Nat) (fun i => [(4, .p 1 0), (5, .p 2 0), (15, .v (.slice a2 Q.length c2)), (16, .v (.int .i64 (Q.length : Int))), (17, .v (.int .i64 (i : Int)))]) (fun _ => [(1, ⟨43, [.v (.int .i64 p.1), .v (.string (mkS p.2))]⟩), (2, ⟨43, [.v (.int .i64 q.1), .v (.string (mkS q.2))]⟩)])
      (fun i u' m' => i ≤ Q.length ∧ (∀ j (hj : j < Q.length), j < i → (Q[j]'hj).1 ≠ (p, q)) ∧ m' = PH.mt) (fun i => Q.length - i) 0 (by kernel_rfl) (fun _ => by kernel_rfl) ⟨by kernel_rfl, by kernel_rfl, by kernel_rfl⟩ ⟨by omega, fun j hj h => by omega, rfl⟩ ?_
    rintro J i hJ u1 m1 l1 ⟨hi, h0, rfl⟩
    by_cases hlt : i < Q.length
    · refine G.lssT (i : Int) (Q.length : Int) (by kernel_rfl) (by omega) ?_
      have hTi : Q[i]? = some Q[i] := List.getElem?_eq_getElem hlt
      have hval := (cQ.val _ (List.getElem_mem hlt)).1
      obtain ⟨ba, oa, rfl, ea⟩ := ListP.at' (hQ.mono (l0.trans l1)) (j := i) (e := prtV Q[i]) (by simp [hTi])
      have hback : Q[i].1 ≠ (p, q) → ∀ j (hj : j < Q.length), j < i + 1 → (Q[j]'hj).1 ≠ (p, q) := fun hne j hj h => by
        rcases (by omega : j < i ∨ j = i) with e | rfl
        · exact h0 j hj e
        · exact hne
      refine G.addr ba oa Q.length c2 i 5 (by kernel_rfl) (by omega) ?_
      refine G.loadU (some 5) ba (oa + i * 5) (.agg #[.int .i64 Q[i].1.1.1, .string (mkS Q[i].1.1.2), .int .i64 Q[i].1.2.1, .string (mkS Q[i].1.2.2), .string (mkS (ratT Q[i].2))]) (by kernel_rfl) (by kernel_rfl) ea ?_
      by_cases he : Q[i].1.1 = p
      · refine G.eqAgg 43 #[.int .i64 Q[i].1.1.1, .string (mkS Q[i].1.1.2)] #[.int .i64 p.1, .string (mkS p.2)] true (by kernel_rfl) (by kernel_rfl) (by kernel_rfl) (fun w => by rw [← decide_eq_true he]; exact keyPar.eq Q[i].1.1 p w) ?_
        by_cases he2 : Q[i].1.2 = q
        · refine G.eqAgg 43 #[.int .i64 Q[i].1.2.1, .string (mkS Q[i].1.2.2)] #[.int .i64 q.1, .string (mkS q.2)] true (by kernel_rfl) (by kernel_rfl) (by kernel_rfl) (fun w => by rw [← decide_eq_true he2]; exact keyPar.eq Q[i].1.2 q w) ?_
          exact G.ret (.string (mkS (ratT Q[i].2))) (by kernel_rfl) ⟨rfl, by rw [hval, show Q[i].1 = (p, q) from Prod.ext he he2]⟩
        · refine G.eqAgg 43 #[.int .i64 Q[i].1.2.1, .string (mkS Q[i].1.2.2)] #[.int .i64 q.1, .string (mkS q.2)] false (by kernel_rfl) (by kernel_rfl) (by kernel_rfl) (fun w => by rw [← decide_eq_false he2]; exact keyPar.eq Q[i].1.2 q w) ?_
          refine G.add (i : Int) 1 ((i + 1 : Nat) : Int) (by kernel_rfl) (by omega) (by omega) (by omega) ?_
          exact G.back (by kernel_rfl) (hJ (i + 1) _ _ _ ⟨by kernel_rfl, by kernel_rfl, by kernel_rfl⟩ l1 ⟨by omega, hback fun e => he2 (congrArg Prod.snd e), rfl⟩ (by omega))
      · refine G.eqAgg 43 #[.int .i64 Q[i].1.1.1, .string (mkS Q[i].1.1.2)] #[.int .i64 p.1, .string (mkS p.2)] false (by kernel_rfl) (by kernel_rfl) (by kernel_rfl) (fun w => by rw [← decide_eq_false he]; exact keyPar.eq Q[i].1.1 p w) ?_
        refine G.add (i : Int) 1 ((i + 1 : Nat) : Int) (by kernel_rfl) (by omega) (by omega) (by omega) ?_
        exact G.back (by kernel_rfl) (hJ (i + 1) _ _ _ ⟨by kernel_rfl, by kernel_rfl, by kernel_rfl⟩ l1 ⟨by omega, hback fun e => he (congrArg Prod.fst e), rfl⟩ (by omega))
    · obtain rfl : i = Q.length := by omega
      refine G.lssF (Q.length : Int) (Q.length : Int) (by kernel_rfl) (by omega) ?_
      have hz : F.t (p, q) = 0 := cQ.out (p, q) fun hm => by
        obtain ⟨x, hx, e⟩ := List.mem_map.1 hm
        obtain ⟨j, hj, rfl⟩ := List.getElem_of_mem hx
        exact h0 j hj hj e
      exact G.ret (.string (mkS [48])) (by kernel_rfl) ⟨rfl, by rw [hz, ratT_zero]⟩
end Go.Proofs.YtikfmknnbjocmaaGreatDoor
end
section
set_option linter.unusedSectionVars false
set_option linter.unusedVariables false
namespace Go.Proofs.YtikfmknnbjocmaaGreatDoor
open Go.RowKit Go.MapKept
theorem one1_cfd {d N : Nat} {p : Par} {q : Rat} (h1 : Dn d N 1) (hq : Dn d N q) (h2 : Dn d N (q * q)) : CFD d N (CF.one1 p q) :=
  ⟨h1, fun k => by
    show Dn d N (setF (fun _ => (0 : Rat)) p q k)
    unfold setF; split
    · exact hq
    · exact Dn.zero _ _, fun k => by
    show Dn d N (setF (fun _ => (0 : Rat)) (p, p) (q * q) k)
    unfold setF; split
    · exact h2
    · exact Dn.zero _ _⟩
theorem one1_cfv {p : Par} {q : Rat} (hp : PV p) : CFV (CF.one1 p q) :=
  ⟨fun k hk => by
    have hk : setF (fun _ => (0 : Rat)) p q k ≠ 0 := hk
    unfold setF at hk
    split at hk
    · subst_vars; exact hp
    · exact absurd rfl hk, fun k hk => by
    have hk : setF (fun _ => (0 : Rat)) (p, p) (q * q) k ≠ 0 := hk
    unfold setF at hk
    split at hk
    · subst_vars
      exact ⟨hp, hp, fun e => by
      have e : 0 < cmpP p p := e
      have := (ordP.sym _ _).2 e
      omega⟩
    · exact absurd rfl hk⟩
set_option maxHeartbeats 1000000 in
theorem ringLift0 {u : PH} {v : Value} {T : List (List UInt8 × Nat)} {R : List SRel} {F : List Feat} {lab : Int} {a : Nat} {s : List UInt8} {x : List UInt8 × Nat} {H : CF} {N : Nat} (ht : TabU u) (h : SchP u v T R F lab) (ok : SchOK u T R F lab) (hx : T[a]? = some x)
    (hval : ∀ u', PH.le u u' → Fn0 Tryz.prog 42 [attV x, .string (mkS s)] u' fun r _ => r = .bool true)
    (hlift : ∀ u', PH.le u u' → Fn0 Tryz.prog 43 [v, .int .i64 (a : Int), .string (mkS s)] u' fun r u'' => MomP u'' r H N) (sH : CFS H) (hN : N ≤ 1000000) :
    Fn0 Tryz.prog 14 [v, .int .i64 (a : Int), .string (mkS s)] u fun r u' => RngP u' r H N := by
  have hc : ∀ u', PH.le u u' → Fn0 Tryz.prog 41 [v] u' fun r _ => r = .int .i64 0 := fun u' l => check0 (h.mono l) (ok.mono l)
  obtain ⟨pa, ca, pb, cb, pe, ce, rfl, hT, hR, hF⟩ := h
  obtain ⟨hal, _⟩ := List.getElem?_eq_some_iff.1 hx
  have ht2 := ok.t2
  refine Fn0.of Tryz.func14 (by kernel_rfl) (by kernel_rfl) ?_
  refine G.call0 _ _ (by kernel_rfl) Tryz.call41 (hc u (PH.le_refl _)) ?_
  rintro v1 u1 l1 rfl
  refine G.neqF 0 0 (by kernel_rfl) (by omega) ?_
  refine G.lssF (a : Int) 0 (by kernel_rfl) (by omega) ?_
  refine G.geqF (a : Int) (T.length : Int) (by kernel_rfl) (by omega) ?_
  obtain ⟨bb, ob, rfl, eb⟩ := ListP.at' (hT.mono l1) (j := a) (e := attV x) (by simp [hx])
  refine G.addr bb ob T.length ca a 2 (by kernel_rfl) hal ?_
  refine G.loadU (some 2) bb (ob + a * 2) (attV x) (by kernel_rfl) (by kernel_rfl) eb ?_
  refine G.call0 _ _ (by kernel_rfl) Tryz.call42 (hval u1 l1) ?_
  rintro v2 u2 l2 rfl
  refine G.call0 _ _ (by kernel_rfl) Tryz.call43 (hlift u2 (l1.trans l2)) ?_
  intro v3 u3 l3 k3
  obtain ⟨_, _, _, _, _, _, _, _, _, _, rfl⟩ := momP_opn k3
  refine G.call0 _ _ (by kernel_rfl) Tryz.call44 (cofactor0 (ht.mono ((l1.trans l2).trans l3)) k3 sH hN) ?_
  rintro v4 u4 l4 ⟨r, rfl, k4⟩
  obtain ⟨e1, f1, g1, e2, f2, g2, rfl⟩ := k4.opn
  exact G.ret _ (by kernel_rfl) ⟨rfl, _, rfl, k4⟩
def bothT : List (List UInt8 × Nat) := [([120], 2), ([121], 2)]
def bothR (g : Nat) : List SRel := [([114], [0, 1], (some ⟨g, 0, none⟩, 2))]
def bothF : List Feat := [(0, 1, 0)]
theorem ElsP.listP {u : PH} {g sz : Nat} {es : List Value} (h : ElsP u g 0 sz es) : ListP u (.slice (some ⟨g, 0, none⟩) es.length es.length) sz es := ⟨_, _, rfl, Nat.le_refl _, fun j e hj => ⟨g, 0, rfl, h j e hj⟩⟩
theorem names_of {L : List (List UInt8)} (h : (L.all wordB && decide L.Nodup) = true) : Names L := by
  rw [Bool.and_eq_true, List.all_eq_true, decide_eq_true_iff] at h
  exact ⟨h.1, h.2⟩
theorem bothOK {u : PH} {g : Nat} (h : ListP u (.slice (some ⟨g, 0, none⟩) 2 2) 1 (intsV [0, 1])) : SchOK u bothT (bothR g) bothF 1 where
  att := ⟨names_of (by decide +kernel), fun a ha => by simp [bothT] at ha; rcases ha with rfl | rfl <;> decide⟩
  rel := ⟨names_of (by show (([[114]] : List (List UInt8)).all wordB && decide ([[114]] : List (List UInt8)).Nodup) = true; decide +kernel), fun r hr => by simp [bothR] at hr; subst hr; simp, fun r hr a ha => by simp [bothR] at hr; subst hr; simp at ha; show a < 2; omega, fun r hr => by simp [bothR] at hr; subst hr; simp, fun r hr k x y h1 h2 => by
    simp [bothR] at hr; subst hr
    match k, h1, h2 with
    | 0, h1, h2 => simp at h1 h2; omega
    | k + 1, h1, h2 => simp at h2, fun a ha => ⟨_, List.mem_singleton.2 rfl, by
    have : a < 2 := ha
    simp; omega⟩, fun r hr => by simp [bothR] at hr; subst hr; exact h⟩
  feat := ⟨fun f hf => by simp [bothF] at hf; subst hf; exact ⟨[120], 2, rfl, .inl ⟨rfl, rfl, by decide⟩, by decide⟩, by decide⟩
  t1 := by decide
  t2 := by decide
  r1 := by show 0 < 1; omega
  r2 := by show 1 ≤ 6; omega
  f2 := by decide
  l1 := by decide
  l2 := fun l hl => by
    obtain rfl : l = 1 := by omega
    exact ⟨[121], rfl⟩
theorem both0 {u : PH} : Fn0 Tryz.prog 34 [] u fun v u' => ∃ g, SchP u' v bothT (bothR g) bothF 1 ∧ SchOK u' bothT (bothR g) bothF 1 := by
  refine Fn0.of Tryz.func34 (by kernel_rfl) (by kernel_rfl) ?_
  refine G.buildU 77 2 24 (.agg #[.string (mkS []), .int .i64 0]) [.agg #[.string (mkS [120]), .int .i64 ((2 : Nat) : Int)], .agg #[.string (mkS [121]), .int .i64 ((2 : Nat) : Int)]] (by kernel_rfl) (fun x hx => by
    simp only [List.mem_cons, List.not_mem_nil, or_false] at hx
    rcases hx with rfl | rfl <;> exact ⟨rfl, List.all_eq_true.1 rfl⟩) rfl (by omega) (by simp) (by simp) ?_
  intro g1 u1 l1 e1
  refine G.buildU 3 1 8 (.int .i64 0) [.int .i64 ((0 : Nat) : Int), .int .i64 ((1 : Nat) : Int)] (by kernel_rfl) (intsV_ok [0, 1]) rfl (by omega) (by simp) (by simp) ?_
  intro g2 u2 l2 e2
  refine G.buildU 79 2 40 (.agg #[.string (mkS []), .slice none 0 0]) [.agg #[.string (mkS [114]), .slice (some ⟨g2, 0, none⟩) 2 2]] (by kernel_rfl) (fun x hx => by
    simp only [List.mem_cons, List.not_mem_nil, or_false] at hx
    subst hx; exact ⟨rfl, List.all_eq_true.1 rfl⟩) rfl (by omega) (by simp) (by simp) ?_
  intro g3 u3 l3 e3
  refine G.buildU 50 3 24 (.agg #[.int .i64 0, .int .i64 0, .int .i64 0]) [.agg #[.int .i64 ((0 : Nat) : Int), .int .i64 ((1 : Nat) : Int), .int .i64 ((0 : Nat) : Int)]] (by kernel_rfl) (fun x hx => by
    simp only [List.mem_cons, List.not_mem_nil, or_false] at hx
    subst hx; exact ⟨rfl, List.all_eq_true.1 rfl⟩) rfl (by omega) (by simp) (by simp) ?_
  intro g4 u4 l4 e4
  exact G.ret (.agg #[.slice (some ⟨g1, 0, none⟩) 2 2, .slice (some ⟨g3, 0, none⟩) 1 1, .slice (some ⟨g4, 0, none⟩) 1 1, .int .i64 1]) (by kernel_rfl)
    ⟨rfl, g2, ⟨_, _, _, _, _, _, rfl, e1.listP.mono ((l2.trans l3).trans l4), e3.listP.mono l4, e4.listP⟩, bothOK (e2.listP.mono (l3.trans l4))⟩
end Go.Proofs.YtikfmknnbjocmaaGreatDoor
end
section
set_option linter.unusedSectionVars false
set_option linter.unusedVariables false
namespace Go.Proofs.YtikfmknnbjocmaaGreatDoor
open Go.RowKit Go.MapKept
abbrev sX : CF := CF.one1 (((0 : Nat) : Int), []) 2
abbrev sY : CF := CF.one1 (-1, []) 3
theorem sX_d : CFD 0 9 sX := one1_cfd ⟨1, by decide +kernel, by decide⟩ ⟨2, by decide +kernel, by decide⟩ ⟨4, by decide +kernel, by decide⟩
theorem sY_d : CFD 0 9 sY := one1_cfd ⟨1, by decide +kernel, by decide⟩ ⟨3, by decide +kernel, by decide⟩ ⟨9, by decide +kernel, by decide⟩
theorem sX_v : CFV sX := one1_cfv ⟨by decide, by decide, .inl rfl⟩
theorem sY_v : CFV sY := one1_cfv ⟨by decide, by decide, .inl rfl⟩
theorem sXY_s : CFS (sX.mul sY) := (sX_d.mul sY_d).cfs (by omega) (by decide +kernel)
theorem sXY_ok : MulOK sX sY := mulOK sX_d sY_d (by omega) (by decide +kernel) (by omega) (by omega)
theorem t2 : ratT 2 = [50] := by decide +kernel
theorem t3 : ratT 3 = [51] := by decide +kernel
theorem liftX0 {u : PH} {v : Value} {g : Nat} (ht : TabU u) (h : SchP u v bothT (bothR g) bothF 1) (ok : SchOK u bothT (bothR g) bothF 1) :
    Fn0 Tryz.prog 14 [v, .int .i64 0, .string (mkS [50])] u fun r u' => RngP u' r sX 1 := by
  have hd : Dat 2 := ⟨by decide, by decide⟩
  have h1 : ∀ u', Fn0 Tryz.prog 42 [attV ([120], 2), .string (mkS [50])] u' fun r _ => r = .bool true := fun u' => by
    have := valueN0 (u := u') (s := [120]) hd
    rw [t2] at this; exact this
  have h2 : ∀ u', PH.le u u' → Fn0 Tryz.prog 43 [v, .int .i64 ((0 : Nat) : Int), .string (mkS [50])] u' fun r u'' => MomP u'' r sX 1 := fun u' l => by
    have := liftNum0 (a := 0) (k := 0) (q := 2) (h.mono l) (ok.mono l) (by decide) (by decide +kernel) ⟨0, rfl⟩ hd.tx (by decide +kernel) (by decide +kernel)
    rw [t2] at this; exact this
  exact ringLift0 (a := 0) (x := ([120], 2)) ht h ok rfl (fun u' _ => h1 u') h2 (sX_d.cfs (by omega) (by decide +kernel)) (by omega)
theorem liftY0 {u : PH} {v : Value} {g : Nat} (ht : TabU u) (h : SchP u v bothT (bothR g) bothF 1) (ok : SchOK u bothT (bothR g) bothF 1) :
    Fn0 Tryz.prog 14 [v, .int .i64 1, .string (mkS [51])] u fun r u' => RngP u' r sY 1 := by
  have hd : Dat 3 := ⟨by decide, by decide⟩
  have h1 : ∀ u', Fn0 Tryz.prog 42 [attV ([121], 2), .string (mkS [51])] u' fun r _ => r = .bool true := fun u' => by
    have := valueN0 (u := u') (s := [121]) hd
    rw [t3] at this; exact this
  have h2 : ∀ u', PH.le u u' → Fn0 Tryz.prog 43 [v, .int .i64 ((1 : Nat) : Int), .string (mkS [51])] u' fun r u'' => MomP u'' r sY 1 := fun u' l => by
    have := liftLab0 (a := 1) (q := 3) (h.mono l) (ok.mono l) hd.tx (by decide +kernel) (by decide +kernel)
    rw [t3] at this; exact this
  exact ringLift0 (a := 1) (x := ([121], 2)) ht h ok rfl (fun u' _ => h1 u') h2 (sY_d.cfs (by omega) (by decide +kernel)) (by omega)
set_option maxHeartbeats 4000000 in
theorem sane0 {u : PH} (ht : TabU u) : Fn0 Tryz.prog 8 [] u fun r _ => r = .bool true := by
  refine Fn0.of Tryz.func8 (by kernel_rfl) (by kernel_rfl) ?_
  refine G.call0 _ _ (by kernel_rfl) Tryz.call34 both0 ?_
  rintro v1 u1 l1 ⟨g1, h1, ok1⟩
  refine G.call0 _ _ (by kernel_rfl) Tryz.call14 (liftX0 (ht.mono l1) h1 ok1) ?_
  rintro v2 u2 l2 ⟨c2, rfl, k2⟩
  obtain ⟨a2, n2, d2, a2', n2', d2', rfl⟩ := k2.opn
  refine G.call0 _ _ (by kernel_rfl) Tryz.call34 both0 ?_
  rintro v3 u3 l3 ⟨g3, h3, ok3⟩
  refine G.call0 _ _ (by kernel_rfl) Tryz.call14 (liftY0 (ht.mono ((l1.trans l2).trans l3)) h3 ok3) ?_
  rintro v4 u4 l4 ⟨c4, rfl, k4⟩
  obtain ⟨a4, n4, d4, a4', n4', d4', rfl⟩ := k4.opn
  refine G.call0 _ _ (by kernel_rfl) Tryz.call15 (ringMul0 (ht.mono (((l1.trans l2).trans l3).trans l4)) (k2.mono (l3.trans l4)) k4 sX_v sY_v sXY_ok sXY_s (by omega) (by omega)) ?_
  rintro v5 u5 l5 ⟨c5, rfl, k5⟩
  obtain ⟨a5, n5, d5, a5', n5', d5', rfl⟩ := k5.opn
  refine G.eqlT 0 0 (by kernel_rfl) (by omega) ?_
  refine G.eqlT 0 0 (by kernel_rfl) (by omega) ?_
  refine G.eqlT 0 0 (by kernel_rfl) (by omega) ?_
  refine G.eqST (ratT (sX.mul sY).c) [49] (by kernel_rfl) (by decide +kernel) ?_
  refine G.call0 _ _ (by kernel_rfl) Tryz.call18 (sum0 (-1, []) k5 (by omega)) ?_
  rintro v6 u6 l6 rfl
  refine G.eqST (ratT ((sX.mul sY).s (-1, []))) [51] (by kernel_rfl) (by decide +kernel) ?_
  refine G.call0 _ _ (by kernel_rfl) Tryz.call18 (sum0 (0, []) (k5.mono l6) (by omega)) ?_
  rintro v7 u7 l7 rfl
  refine G.eqST (ratT ((sX.mul sY).s (0, []))) [50] (by kernel_rfl) (by decide +kernel) ?_
  refine G.call0 _ _ (by kernel_rfl) Tryz.call20 (product0 (0, []) (-1, []) (k5.mono (l6.trans l7)) (by omega)) ?_
  rintro v8 u8 l8 rfl
  refine G.eqST (ratT ((sX.mul sY).t (pairP (0, []) (-1, [])))) [54] (by kernel_rfl) (by decide +kernel) ?_
  refine G.call0 _ _ (by kernel_rfl) Tryz.call20 (product0 (-1, []) (-1, []) (k5.mono ((l6.trans l7).trans l8)) (by omega)) ?_
  rintro v9 u9 l9 rfl
  refine G.eqST (ratT ((sX.mul sY).t (pairP (-1, []) (-1, [])))) [57] (by kernel_rfl) (by decide +kernel) ?_
  refine G.call0 _ _ (by kernel_rfl) Tryz.call33 (valid0 (k5.mono (((l6.trans l7).trans l8).trans l9)) sXY_s (sX_v.mul sY_v) (by omega)) ?_
  rintro v10 u10 l10 rfl
  refine G.call0 _ _ (by kernel_rfl) Tryz.call35 (less0 (-1, []) (0, []) true (by decide +kernel)) ?_
  rintro v11 u11 l11 rfl
  refine G.call0 _ _ (by kernel_rfl) Tryz.call12 ringOne0 ?_
  rintro v12 u12 l12 rfl
  have hb := cofP_num u12 1
  rw [ratT_one] at hb ⊢
  refine G.call0 _ _ (by kernel_rfl) Tryz.call16 (same0 hb hb (by omega)) ?_
  rintro v13 u13 l13 rfl
  exact G.ret (.bool true) (by kernel_rfl) ⟨rfl, rfl⟩
end Go.Proofs.YtikfmknnbjocmaaGreatDoor
end
section
set_option linter.unusedSectionVars false
set_option linter.unusedVariables false
namespace Go.Proofs.YtikfmknnbjocmaaGreatDoor
open Go.RowKit
def blueL : List UInt8 := [98, 108, 117, 101]
def redL : List UInt8 := [114, 101, 100]
def P4 : List Par := [(-1, []), (0, []), (1, blueL), (1, redL)]
def rowQ (i : Nat) : List (Par × Par) := (P4.drop i).map fun q => (P4.getD i (0, []), q)
def preQ (i : Nat) : List (Par × Par) := (List.range i).flatMap rowQ
theorem preQ_succ (i : Nat) : preQ (i + 1) = preQ i ++ rowQ i := by unfold preQ; rw [List.range_succ, List.flatMap_append]; simp
theorem sortP4 : SortK cmpP P4 := by unfold SortK; decide +kernel
theorem sortQ4 : SortK cmpQ (preQ 4) := by unfold SortK; decide +kernel
theorem pvP4 : ∀ p ∈ P4, PV p := by
  intro p hp
  simp only [P4, List.mem_cons, List.not_mem_nil, or_false] at hp
  rcases hp with rfl | rfl | rfl | rfl
  · exact ⟨by decide, by decide, .inl rfl⟩
  · exact ⟨by decide, by decide, .inl rfl⟩
  · exact ⟨by decide, by decide, .inr (by decide)⟩
  · exact ⟨by decide, by decide, .inr (by decide)⟩
theorem preQ_pv : ∀ q ∈ preQ 4, q.1 ∈ P4 ∧ q.2 ∈ P4 ∧ ¬ 0 < cmpP q.1 q.2 := by decide +kernel
structure Dr {κ : Type} (L : List κ) (T : List (κ × Rat)) : Prop where
  sub : (T.map (·.1)).Sublist L
  val : ∀ p ∈ T, p.2 ≠ 0 ∧ SmR p.2
theorem Dr.nil {κ : Type} : Dr ([] : List κ) [] := ⟨List.Sublist.slnil, by simp⟩
theorem Dr.skip {κ : Type} {L : List κ} {T : List (κ × Rat)} (h : Dr L T) (k : κ) : Dr (L ++ [k]) T := ⟨h.sub.trans (List.sublist_append_left _ _), h.val⟩
theorem Dr.snoc {κ : Type} {L : List κ} {T : List (κ × Rat)} (h : Dr L T) (k : κ) {q : Rat} (h0 : q ≠ 0) (hs : SmR q) : Dr (L ++ [k]) (T ++ [(k, q)]) := by
  refine ⟨by rw [List.map_append]; exact h.sub.append (List.Sublist.refl _), fun p hp => ?_⟩
  rcases List.mem_append.1 hp with hp | hp
  · exact h.val p hp
  · simp at hp; subst hp; exact ⟨h0, hs⟩
theorem Dr.can {κ : Type} [DecidableEq κ] {c : κ → κ → Int} (hc : Ord c) {L : List κ} {T : List (κ × Rat)} (h : Dr L T) (hL : SortK c L) : Can c (fun k => assocQ k T) T := can_of hc (hL.sublist h.sub) fun p hp => (h.val p hp).1
theorem Dr.dn {κ : Type} [DecidableEq κ] {L : List κ} {T : List (κ × Rat)} (h : Dr L T) (k : κ) : Dn 1 108 (assocQ k T) := by
  rcases assocQ_cases k T with e | ⟨q, hq, e⟩
  · rw [e]; exact Dn.zero _ _
  · rw [e]; exact (h.val _ hq).2.dn
theorem Dr.mem {κ : Type} [DecidableEq κ] {L : List κ} {T : List (κ × Rat)} (h : Dr L T) {k : κ} (hk : assocQ k T ≠ 0) : k ∈ L := by
  rcases assocQ_cases k T with e | ⟨q, hq, e⟩
  · exact absurd e hk
  · exact h.sub.subset (List.mem_map.2 ⟨_, hq, rfl⟩)
def tArr (a : Option Addr) (c : Nat) (T : List (Par × Rat)) : Arr := ⟨.slice a T.length c, 99, 3, T.map termV⟩
def qArr (a : Option Addr) (c : Nat) (T : List ((Par × Par) × Rat)) : Arr := ⟨.slice a T.length c, 102, 5, T.map prtV⟩
theorem tArr_at {a : Option Addr} {c : Nat} {T : List (Par × Rat)} {m0 m : PH} : (tArr a c T).At m0 m = ArrAt m0 m (.slice a T.length c) 99 3 (T.map termV) := rfl
theorem qArr_at {a : Option Addr} {c : Nat} {T : List ((Par × Par) × Rat)} {m0 m : PH} : (qArr a c T).At m0 m = ArrAt m0 m (.slice a T.length c) 102 5 (T.map prtV) := rfl
theorem P4_at {i : Nat} (h : i < 4) : P4[i]? = some (P4.getD i (0, [])) := by
  rcases (by omega : i = 0 ∨ i = 1 ∨ i = 2 ∨ i = 3) with rfl | rfl | rfl | rfl <;> rfl
theorem P4_take {i : Nat} (h : i < 4) : P4.take (i + 1) = P4.take i ++ [P4.getD i (0, [])] := by
  rcases (by omega : i = 0 ∨ i = 1 ∨ i = 2 ∨ i = 3) with rfl | rfl | rfl | rfl <;> rfl
theorem rowQ_take {i j : Nat} (h : i + j < 4) : (rowQ i).take (j + 1) = (rowQ i).take j ++ [(P4.getD i (0, []), P4.getD (i + j) (0, []))] := by
  have e : (rowQ i)[j]? = some (P4.getD i (0, []), P4.getD (i + j) (0, [])) := by
    unfold rowQ
    rw [List.getElem?_map, List.getElem?_drop, P4_at h]; rfl
  rw [List.take_add_one, e]; rfl
theorem rowQ_len {i : Nat} (h : i ≤ 4) : (rowQ i).length = 4 - i := by unfold rowQ; simp [P4]
set_option maxHeartbeats 8000000 in
theorem srcCof0 {u : PH} {s : Src} {ts : List Int} {k : Nat} (h : SrcOK u s ts) (hk : k ≤ s.n) :
    Contract Tryz.prog 21 [s.ptr] u (s.M k) fun v u' m' => ∃ (F : CF) (k' : Nat), CofP u' v F 10 ∧ CFD 1 108 F ∧ CFV F ∧ k' ≤ s.n ∧ m' = s.M k' := by
  refine Contract.of Tryz.func21 (by kernel_rfl) (by kernel_rfl) ?_
  refine G.buildU 43 2 24 (.agg #[.int .i64 0, .string (mkS [])]) [.agg #[.int .i64 (-1), .string (mkS [])], .agg #[.int .i64 0, .string (mkS [])], .agg #[.int .i64 1, .string (mkS blueL)], .agg #[.int .i64 1, .string (mkS redL)]] (by kernel_rfl) (fun e he => by
    simp at he
    rcases he with rfl | rfl | rfl | rfl <;> exact ⟨rfl, fun y hy => by simp [Value.cells] at hy; rcases hy with rfl | rfl <;> rfl⟩) rfl (by omega) (by simp) (by simp) ?_
  intro gp u1 l1 ep
  have hP : ∀ i, i < 4 → ElP u1 gp (0 + i * 2) (parV (P4.getD i (0, []))) := fun i hi => ep i _ (by
    rcases (by omega : i = 0 ∨ i = 1 ∨ i = 2 ∨ i = 3) with rfl | rfl | rfl | rfl <;> rfl)
  refine G.callA _ _ (by kernel_rfl) (by kernel_rfl) Tryz.call22 (mt_or _).symm (apart_mt _) (srcRat0 (h.mono l1) hk) ?_
  rintro v2 u2 m2 l2 ⟨q0, k0, rfl, hq0, hk0, rfl⟩ _
  rw [mt_or]
  refine G.loop (ι := Nat × Nat × List (Par × Rat) × (Option Addr × Nat)) (fun i => [(0, .v s.ptr), (2, .p 0 0), (3, .v (.slice (some ⟨gp, 0, none⟩) 4 4)), (4, .p 2003 0), (21, .v (.slice (some ⟨gp, 0, none⟩) 4 4)), (22, .v (.int .i64 ((4 : Nat) : Int))), (23, .v (.int .i64 (i.1 : Int)))])
    (fun i => [(0, ⟨38, [.v (.string (mkS [])), .v (.slice none 0 0), .v (.slice none 0 0)]⟩), (2003, ⟨38, [.v (.string (mkS (ratT q0))), .v (.slice i.2.2.2.1 i.2.2.1.length i.2.2.2.2), .v (.slice none 0 0)]⟩)])
    (fun i u' m' => i.1 ≤ 4 ∧ i.2.1 ≤ s.n ∧ Dr (P4.take i.1) i.2.2.1 ∧ i.2.2.1.length ≤ i.1 ∧ Bag m' [s.arr i.2.1, tArr i.2.2.2.1 i.2.2.2.2 i.2.2.1])
    (fun i => 4 - i.1) (0, k0, [], (none, 0)) (by kernel_rfl) (fun _ => by kernel_rfl) ⟨by kernel_rfl, by kernel_rfl, by kernel_rfl⟩
    ⟨by simp, hk0, Dr.nil, by simp, s.bag0 k0 ⟨PH.mt, ArrAt.nil _ _ _, trivial⟩⟩ ?_
  rintro J ⟨i, k1, T, ⟨a, c⟩⟩ hJ u3 m3 l3 ⟨hi, hk1, hD, hTl, hbag⟩
  simp only at hi hk1 hD hTl hbag hJ
  have le3 := (l1.trans l2).trans l3
  by_cases hlt : i < 4
  · refine G.lssT (i : Int) ((4 : Nat) : Int) (by kernel_rfl) (by omega) ?_
    obtain ⟨p, hp⟩ : ∃ p, p = P4.getD i (0, []) := ⟨_, rfl⟩
    have hpe := (hP i hlt).mono (l2.trans l3)
    have htk := P4_take hlt
    rw [← hp] at hpe htk
    refine G.addr gp 0 4 4 i 2 (by kernel_rfl) hlt ?_
    refine G.loadU (some 2) gp (0 + i * 2) (.agg #[.int .i64 p.1, .string (mkS p.2)]) (by kernel_rfl) (by kernel_rfl) hpe ?_
    obtain ⟨m0, hsrc, hL⟩ := hbag
    obtain ⟨rfl, hg0⟩ := Src.split hsrc
    refine G.callA _ _ (by kernel_rfl) (by kernel_rfl) Tryz.call22 rfl (Src.apart hg0) (srcRat0 (h.mono le3) hk1) ?_
    rintro v4 u4 m4 l4 ⟨q, k2, rfl, hq, hk2, rfl⟩ _
    by_cases hq0' : q = 0
    · refine G.neSF (ratT q) [48] (by kernel_rfl) (by rw [hq0', ratT_zero]) ?_
      refine G.add (i : Int) 1 ((i + 1 : Nat) : Int) (by kernel_rfl) (by omega) (by omega) (by omega) ?_
      exact G.back (by kernel_rfl) (hJ (i + 1, k2, T, (a, c)) _ _ _ ⟨by kernel_rfl, by kernel_rfl, by kernel_rfl⟩ (l3.trans l4) ⟨by dsimp only; omega, hk2, by dsimp only; rw [htk]; exact hD.skip p, by dsimp only; omega, ⟨m0, Src.at hg0, hL⟩⟩ (by dsimp only; omega))
    · refine G.neST (ratT q) [48] (by kernel_rfl) (ratT_ne0 hq0') ?_
      refine G.callA _ _ (by kernel_rfl) (by kernel_rfl) Tryz.call37 rfl (Src.apart hg0) (srcN0 (n := 2) (h.mono (le3.trans l4)) hk2 (by omega) (by omega)) ?_
      rintro v5 u5 m5 l5 ⟨r, k3, rfl, hr, hk3, rfl⟩ _
      by_cases hr1 : r = 1
      · refine G.eqlT (r : Int) 1 (by kernel_rfl) (by omega) ?_
        refine G.buildU 99 3 40 (.agg #[.int .i64 0, .string (mkS []), .string (mkS [])]) [.agg #[.int .i64 p.1, .string (mkS p.2), .string (mkS (ratT q))]] (by kernel_rfl) (termV_ok (p, q)) rfl (by omega) (by simp) (by simp) ?_
        intro g6 u6 l6 e6
        have hbag2 : Bag (m0.or (s.M k3)) [s.arr k3, tArr a c T] := ⟨m0, Src.at hg0, hL⟩
        obtain ⟨mm, hx0, hput⟩ := hbag2.focus 1 rfl
        rw [tArr_at] at hx0
        refine G.append 99 3 40 (.agg #[.int .i64 0, .string (mkS []), .string (mkS [])]) mm (T.map termV) [.agg #[.int .i64 p.1, .string (mkS p.2), .string (mkS (ratT q))]] (.slice a T.length c) g6 0 1 1 (by kernel_rfl) rfl rfl (by omega) hx0 e6 (termV_ok (p, q)) rfl (by omega) (by simp; omega) (by simp; omega) ?_
        intro v7 m7 hx7
        rw [show T.map termV ++ [.agg #[.int .i64 p.1, .string (mkS p.2), .string (mkS (ratT q))]] = (T ++ [(p, q)]).map termV by rw [List.map_append]; rfl] at hx7
        obtain ⟨a7, c7, rfl⟩ := hx7.shape
        rw [List.length_map] at hx7 ⊢
        have hbag3 := hput (tArr a7 c7 (T ++ [(p, q)])) m7 hx7
        refine G.add (i : Int) 1 ((i + 1 : Nat) : Int) (by kernel_rfl) (by omega) (by omega) (by omega) ?_
        exact G.back (by kernel_rfl) (hJ (i + 1, k3, T ++ [(p, q)], (a7, c7)) _ _ _ ⟨by kernel_rfl, by kernel_rfl, by kernel_rfl⟩ (((l3.trans l4).trans l5).trans l6) ⟨by dsimp only; omega, hk3, by dsimp only; rw [htk]; exact hD.snoc p hq0' hq, by dsimp only; simp; omega, hbag3⟩ (by dsimp only; omega))
      · refine G.eqlF (r : Int) 1 (by kernel_rfl) (by omega) ?_
        refine G.add (i : Int) 1 ((i + 1 : Nat) : Int) (by kernel_rfl) (by omega) (by omega) (by omega) ?_
        exact G.back (by kernel_rfl) (hJ (i + 1, k3, T, (a, c)) _ _ _ ⟨by kernel_rfl, by kernel_rfl, by kernel_rfl⟩ ((l3.trans l4).trans l5) ⟨by dsimp only; omega, hk3, by dsimp only; rw [htk]; exact hD.skip p, by dsimp only; omega, ⟨m0, Src.at hg0, hL⟩⟩ (by dsimp only; omega))
  obtain rfl : i = 4 := by omega
  refine G.lssF ((4 : Nat) : Int) ((4 : Nat) : Int) (by kernel_rfl) (by omega) ?_
  obtain ⟨m0, hsrc, hL⟩ := hbag
  refine G.loop (ι := Nat × Nat × List ((Par × Par) × Rat) × (Option Addr × Nat)) (fun i => [(0, .v s.ptr), (2, .p 0 0), (3, .v (.slice (some ⟨gp, 0, none⟩) 4 4)), (4, .p 2003 0), (45, .v (.slice (some ⟨gp, 0, none⟩) 4 4)), (46, .v (.int .i64 ((4 : Nat) : Int))), (47, .v (.int .i64 (i.1 : Int)))])
    (fun i => [(0, ⟨38, [.v (.string (mkS [])), .v (.slice none 0 0), .v (.slice none 0 0)]⟩), (2003, ⟨38, [.v (.string (mkS (ratT q0))), .v (.slice a T.length c), .v (.slice i.2.2.2.1 i.2.2.1.length i.2.2.2.2)]⟩)])
    (fun i u' m' => i.1 ≤ 4 ∧ i.2.1 ≤ s.n ∧ Dr (preQ i.1) i.2.2.1 ∧ i.2.2.1.length ≤ 10 ∧ Bag m' [s.arr i.2.1, qArr i.2.2.2.1 i.2.2.2.2 i.2.2.1, tArr a c T])
    (fun i => 4 - i.1) (0, k1, [], (none, 0)) (by kernel_rfl) (fun _ => by kernel_rfl) ⟨by kernel_rfl, by kernel_rfl, by kernel_rfl⟩
    ⟨by simp, hk1, Dr.nil, by simp, ⟨m0, hsrc, m0, ArrAt.nil _ _ _, hL⟩⟩ ?_
  rintro J2 ⟨i, k2, Q, ⟨qa, qc⟩⟩ hJ2 u4 m4 l4 ⟨hi2, hk2, hQD, hQl, hbag2⟩
  simp only at hi2 hk2 hQD hQl hbag2 hJ2
  have le4 := le3.trans l4
  have hPu : ∀ u', PH.le u4 u' → ∀ i, i < 4 → ElP u' gp (0 + i * 2) (parV (P4.getD i (0, []))) := fun u' hl i hi => (hP i hi).mono (((l2.trans l3).trans l4).trans hl)
  by_cases hlt : i < 4
  · refine G.lssT (i : Int) ((4 : Nat) : Int) (by kernel_rfl) (by omega) ?_
    obtain ⟨p, hp⟩ : ∃ p, p = P4.getD i (0, []) := ⟨_, rfl⟩
    have hpe := hPu u4 (PH.le_refl _) i hlt
    rw [← hp] at hpe
    refine G.addr gp 0 4 4 i 2 (by kernel_rfl) hlt ?_
    refine G.loadU (some 2) gp (0 + i * 2) (.agg #[.int .i64 p.1, .string (mkS p.2)]) (by kernel_rfl) (by kernel_rfl) hpe ?_
    refine G.sliceFrom gp 0 4 4 i 2 (by kernel_rfl) (by omega) hlt ?_
    refine G.loop (ι := Nat × Nat × List ((Par × Par) × Rat) × (Option Addr × Nat)) (fun j => [(0, .v s.ptr), (2, .p 0 0), (3, .v (.slice (some ⟨gp, 0, none⟩) 4 4)), (4, .p 2003 0), (9, .p 12003 0), (45, .v (.slice (some ⟨gp, 0, none⟩) 4 4)), (46, .v (.int .i64 ((4 : Nat) : Int))), (47, .v (.int .i64 (i : Int))), (54, .v (.slice (some ⟨gp, 0 + i * 2, none⟩) (4 - i) (4 - i))), (55, .v (.int .i64 ((4 - i : Nat) : Int))), (56, .v (.int .i64 (j.1 : Int)))])
      (fun j => [(0, ⟨38, [.v (.string (mkS [])), .v (.slice none 0 0), .v (.slice none 0 0)]⟩), (2003, ⟨38, [.v (.string (mkS (ratT q0))), .v (.slice a T.length c), .v (.slice j.2.2.2.1 j.2.2.1.length j.2.2.2.2)]⟩), (12003, ⟨43, [.v (.int .i64 p.1), .v (.string (mkS p.2))]⟩)])
      (fun j u' m' => j.1 ≤ 4 - i ∧ j.2.1 ≤ s.n ∧ Dr (preQ i ++ (rowQ i).take j.1) j.2.2.1 ∧ Bag m' [s.arr j.2.1, qArr j.2.2.2.1 j.2.2.2.2 j.2.2.1, tArr a c T])
      (fun j => 4 - i - j.1) (0, k2, Q, (qa, qc)) (by kernel_rfl) (fun _ => by kernel_rfl) ⟨by kernel_rfl, by kernel_rfl, by kernel_rfl⟩
      ⟨by simp, hk2, by simpa using hQD, hbag2⟩ ?_
    rintro J3 ⟨j, k3, R, ⟨ra, rc⟩⟩ hJ3 u5 m5 l5 ⟨hj, hk3, hRD, hbag3⟩
    simp only at hj hk3 hRD hbag3 hJ3
    have hRl : R.length ≤ 10 := by
      have h1 := hRD.sub.length_le
      have h2 : ∀ a : Fin 4, ∀ b : Fin 5, (preQ a.val ++ (rowQ a.val).take b.val).length ≤ 10 := by decide +kernel
      have h3 := h2 ⟨i, hlt⟩ ⟨j, by omega⟩
      rw [List.length_map] at h1
      exact Nat.le_trans h1 h3
    have le5 := le4.trans l5
    by_cases hltj : j < 4 - i
    · refine G.lssT (j : Int) ((4 - i : Nat) : Int) (by kernel_rfl) (by omega) ?_
      obtain ⟨p', hp'⟩ : ∃ p', p' = P4.getD (i + j) (0, []) := ⟨_, rfl⟩
      have hpe' := hPu u5 l5 (i + j) (by omega)
      have htk := rowQ_take (i := i) (j := j) (by omega)
      rw [← hp'] at hpe' htk
      rw [← hp] at htk
      refine G.addr gp (0 + i * 2) (4 - i) (4 - i) j 2 (by kernel_rfl) hltj ?_
      refine G.loadU (some 2) gp (0 + i * 2 + j * 2) (.agg #[.int .i64 p'.1, .string (mkS p'.2)]) (by kernel_rfl) (by kernel_rfl) (by rw [show 0 + i * 2 + j * 2 = 0 + (i + j) * 2 by omega]; exact hpe') ?_
      obtain ⟨n0, hsrc3, hL3⟩ := hbag3
      obtain ⟨rfl, hg0⟩ := Src.split hsrc3
      refine G.callA _ _ (by kernel_rfl) (by kernel_rfl) Tryz.call22 rfl (Src.apart hg0) (srcRat0 (h.mono le5) hk3) ?_
      rintro v6 u6 m6 l6 ⟨q, k4, rfl, hq, hk4, rfl⟩ _
      by_cases hq0' : q = 0
      · refine G.neSF (ratT q) [48] (by kernel_rfl) (by rw [hq0', ratT_zero]) ?_
        refine G.add (j : Int) 1 ((j + 1 : Nat) : Int) (by kernel_rfl) (by omega) (by omega) (by omega) ?_
        exact G.back (by kernel_rfl) (hJ3 (j + 1, k4, R, (ra, rc)) _ _ _ ⟨by kernel_rfl, by kernel_rfl, by kernel_rfl⟩ (l5.trans l6) ⟨by dsimp only; omega, hk4, by dsimp only; rw [htk, ← List.append_assoc]; exact hRD.skip _, ⟨n0, Src.at hg0, hL3⟩⟩ (by dsimp only; omega))
      · refine G.neST (ratT q) [48] (by kernel_rfl) (ratT_ne0 hq0') ?_
        refine G.callA _ _ (by kernel_rfl) (by kernel_rfl) Tryz.call37 rfl (Src.apart hg0) (srcN0 (n := 2) (h.mono (le5.trans l6)) hk4 (by omega) (by omega)) ?_
        rintro v7 u7 m7 l7 ⟨r, k5, rfl, hr, hk5, rfl⟩ _
        by_cases hr1 : r = 1
        · refine G.eqlT (r : Int) 1 (by kernel_rfl) (by omega) ?_
          refine G.buildU 102 5 64 (.agg #[.int .i64 0, .string (mkS []), .int .i64 0, .string (mkS []), .string (mkS [])]) [.agg #[.int .i64 p.1, .string (mkS p.2), .int .i64 p'.1, .string (mkS p'.2), .string (mkS (ratT q))]] (by kernel_rfl) (prtV_ok ((p, p'), q)) rfl (by omega) (by simp) (by simp) ?_
          intro g8 u8 l8 e8
          have hbag4 : Bag (n0.or (s.M k5)) [s.arr k5, qArr ra rc R, tArr a c T] := ⟨n0, Src.at hg0, hL3⟩
          obtain ⟨mm, hx0, hput⟩ := hbag4.focus 1 rfl
          rw [qArr_at] at hx0
          refine G.append 102 5 64 (.agg #[.int .i64 0, .string (mkS []), .int .i64 0, .string (mkS []), .string (mkS [])]) mm (R.map prtV) [.agg #[.int .i64 p.1, .string (mkS p.2), .int .i64 p'.1, .string (mkS p'.2), .string (mkS (ratT q))]] (.slice ra R.length rc) g8 0 1 1 (by kernel_rfl) rfl rfl (by omega) hx0 e8 (prtV_ok ((p, p'), q)) rfl (by omega) (by simp; omega) (by simp; omega) ?_
          intro v9 m9 hx9
          rw [show R.map prtV ++ [.agg #[.int .i64 p.1, .string (mkS p.2), .int .i64 p'.1, .string (mkS p'.2), .string (mkS (ratT q))]] = (R ++ [((p, p'), q)]).map prtV by rw [List.map_append]; rfl] at hx9
          obtain ⟨a9, c9, rfl⟩ := hx9.shape
          rw [List.length_map] at hx9 ⊢
          have hbag5 := hput (qArr a9 c9 (R ++ [((p, p'), q)])) m9 hx9
          refine G.add (j : Int) 1 ((j + 1 : Nat) : Int) (by kernel_rfl) (by omega) (by omega) (by omega) ?_
          exact G.back (by kernel_rfl) (hJ3 (j + 1, k5, R ++ [((p, p'), q)], (a9, c9)) _ _ _ ⟨by kernel_rfl, by kernel_rfl, by kernel_rfl⟩ (((l5.trans l6).trans l7).trans l8) ⟨by dsimp only; omega, hk5, by dsimp only; rw [htk, ← List.append_assoc]; exact hRD.snoc _ hq0' hq, hbag5⟩ (by dsimp only; omega))
        · refine G.eqlF (r : Int) 1 (by kernel_rfl) (by omega) ?_
          refine G.add (j : Int) 1 ((j + 1 : Nat) : Int) (by kernel_rfl) (by omega) (by omega) (by omega) ?_
          exact G.back (by kernel_rfl) (hJ3 (j + 1, k5, R, (ra, rc)) _ _ _ ⟨by kernel_rfl, by kernel_rfl, by kernel_rfl⟩ ((l5.trans l6).trans l7) ⟨by dsimp only; omega, hk5, by dsimp only; rw [htk, ← List.append_assoc]; exact hRD.skip _, ⟨n0, Src.at hg0, hL3⟩⟩ (by dsimp only; omega))
    · obtain rfl : j = 4 - i := by omega
      refine G.lssF ((4 - i : Nat) : Int) ((4 - i : Nat) : Int) (by kernel_rfl) (by omega) ?_
      refine G.add (i : Int) 1 ((i + 1 : Nat) : Int) (by kernel_rfl) (by omega) (by omega) (by omega) ?_
      exact G.back (by kernel_rfl) (hJ2 (i + 1, k3, R, (ra, rc)) _ _ _ ⟨by kernel_rfl, by kernel_rfl, by kernel_rfl⟩ (l4.trans l5) ⟨by dsimp only; omega, hk3, by dsimp only; rw [preQ_succ]; rw [List.take_of_length_le (by rw [rowQ_len (by omega)]; exact Nat.le_refl _)] at hRD; exact hRD, hRl, hbag3⟩ (by dsimp only; omega))
  obtain rfl : i = 4 := by omega
  refine G.lssF ((4 : Nat) : Int) ((4 : Nat) : Int) (by kernel_rfl) (by omega) ?_
  obtain ⟨n0, hsrc2, hL2⟩ := hbag2
  obtain ⟨rfl, hg0⟩ := Src.split hsrc2
  refine G.giveP (ma := n0) (sm := s.M k2) (by kernel_rfl) rfl (Src.apart hg0) (s.h0 k k2) ?_
  intro u9 l9 hm
  have hLq : ListP u9 (.slice qa Q.length qc) 5 (Q.map prtV) := hL2.list hm 0 rfl
  have hLt : ListP u9 (.slice a T.length c) 3 (T.map termV) := hL2.list hm 1 rfl
  refine G.ret (.agg #[.string (mkS (ratT q0)), .slice a T.length c, .slice qa Q.length qc]) (by kernel_rfl) ⟨⟨q0, fun p => assocQ p T, fun q => assocQ q Q⟩, k2, ⟨T, Q, a, c, qa, qc, rfl, hLt, hLq, ?_, hQD.can ordQ sortQ4, by omega, hQl⟩, ⟨hq0.dn, fun p => hD.dn p, fun q => hQD.dn q⟩, ⟨fun p hp => ?_, fun q hq => ?_⟩, hk2, rfl⟩
  · exact hD.can ordP sortP4
  · exact pvP4 p (hD.mem hp)
  · obtain ⟨h1, h2, h3⟩ := preQ_pv q (hQD.mem hq)
    exact ⟨pvP4 _ h1, pvP4 _ h2, h3⟩
end Go.Proofs.YtikfmknnbjocmaaGreatDoor
end
section
set_option linter.unusedSectionVars false
set_option linter.unusedVariables false
namespace Go.Proofs.YtikfmknnbjocmaaGreatDoor
open Go.RowKit Go.MapKept
theorem pw {n : Nat} (h : n < 10 ^ 30) : n < 10 ^ 100 := Nat.lt_of_lt_of_le h (by decide +kernel)
end Go.Proofs.YtikfmknnbjocmaaGreatDoor
end
section
set_option linter.unusedSectionVars false
set_option linter.unusedVariables false
namespace Go.Proofs.YtikfmknnbjocmaaGreatDoor
open Go.RowKit Go.MapKept
end Go.Proofs.YtikfmknnbjocmaaGreatDoor
end
