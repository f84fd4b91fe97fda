/- Joined out of parts of one proof by a program: contracts of the functions that the statement reaches, and the plain facts behind them. -/
import Derived.Test.YtldokelpolbnnaaGreatDoorJA10
set_option linter.unusedVariables false
set_option linter.unusedSimpArgs false
set_option linter.unusedSectionVars false
section
set_option linter.unusedSectionVars false
set_option linter.unusedVariables false
namespace Go.Proofs.YtldokelpolbnnaaGreatDoor
open Go.RowKit
structure Q4 where
  b : Bool
  a : Option Addr
  n : Nat
  c : Nat
  a' : Option Addr
  n' : Nat
  c' : Nat
def qv (f : Q4) : Value := .agg #[.bool f.b, .slice f.a f.n f.c, .bool false, .slice f.a' f.n' f.c']
def qc (f : Q4) : List SV := [.v (.bool f.b), .v (.slice f.a f.n f.c), .v (.bool false), .v (.slice f.a' f.n' f.c')]
theorem QP.opQ {u : PH} {v : Value} {q : Rat} (h : QP u v q) : ∃ f, v = qv f := by
  obtain ⟨b, a, n, c, a', n', c', rfl, _⟩ := h.opn
  exact ⟨⟨b, a, n, c, a', n', c'⟩, rfl⟩
def mvA (v : Value) (es : List Value) : Arr := ⟨v, 27, 1, es⟩
theorem mvA_at {v : Value} {es : List Value} {m0 m : PH} : (mvA v es).At m0 m = ArrAt m0 m v 27 1 es := rfl
set_option maxHeartbeats 16000000 in
theorem moves0 {u : PH} {v : Value} {ts : List Int} (ht : TabU u) (hv : ListP u v 1 (intsZ ts)) (hlo : ∀ t ∈ ts, -9223372036854775808 ≤ t) (hhi : ∀ t ∈ ts, t ≤ 9223372036854775807) :
    Fn0 Tryz.prog 3 [v] u fun v' _ => v' = .bool true := by
  obtain ⟨a, c, rfl⟩ := hv.opn
  rw [intsZ_length] at hv ⊢
  refine Fn0.of Tryz.func3 (by kernel_rfl) (by kernel_rfl) ?_
  by_cases h400 : 400 < ts.length
  · refine G.gtrT (ts.length : Int) 400 (by kernel_rfl) (by omega) ?_
    refine G.call0 _ _ (by kernel_rfl) Tryz.call8 (sane0 ht) ?_
    rintro v1 u1 l1 rfl
    exact G.ret (.bool true) (by kernel_rfl) ⟨rfl, rfl⟩
  refine G.gtrF (ts.length : Int) 400 (by kernel_rfl) (by omega) ?_
  refine G.callO _ _ (by kernel_rfl) Tryz.call9 (srcNew0 hv (by omega) hlo hhi) ?_
  rintro v1 u1 m1 l1 ⟨s, rfl, rfl, hs⟩ _
  rw [mt_or]
  refine G.callA _ _ (by kernel_rfl) (by kernel_rfl) Tryz.call10 (mt_or _).symm (apart_mt _) (srcN0 (n := 3) hs (Nat.zero_le _) (by omega) (by omega)) ?_
  rintro v2 u2 m2 l2 ⟨r, k2, rfl, hr, hk2, rfl⟩ _
  rw [mt_or]
  obtain ⟨n, hn⟩ : ∃ n, n = r + 1 := ⟨_, rfl⟩
  refine G.add 1 (r : Int) (n : Int) (by kernel_rfl) (by omega) (by omega) (by omega) ?_
  refine G.callA _ _ (by kernel_rfl) (by kernel_rfl) Tryz.call11 (mt_or _).symm (apart_mt _) (srcRats0 (n := n) (hs.mono l2) hk2 (by omega)) ?_
  rintro v3 u3 m3 l3 ⟨d, k3, hd, hdl, hdS, hk3, rfl⟩ _
  rw [mt_or]
  obtain ⟨ad, cd, rfl⟩ := ListP.opn hd
  have hel : (strsV (d.map ratT)).length = n := by simp [strsV, hdl]
  rw [hel] at hd ⊢
  refine G.callO _ _ (by kernel_rfl) Tryz.call12 (identity0 (n := n) (by omega)) ?_
  rintro v4 u4 m4 l4 ⟨aI, cI, rows0, rfl, hS0, hbag0⟩ hf4
  have hbag1 : Bag ((s.M k3).or m4) (s.arr k3 :: omA (.slice aI n cI) rows0 :: rows0.map sRow) := by
    have := Bag.or (s.bag0 k3 (l := []) trivial) hbag0 hf4
    exact Bag.perm (List.perm_append_singleton _ _) this
  have hr0 : rows0.length = n := by rw [hS0.1]; simp
  obtain ⟨go, co, eo⟩ := hbag1.ptr 1 rfl (by intro e; simp only [omA, List.map_eq_nil_iff] at e; rw [e] at hr0; simp at hr0; omega)
  simp only [omA, Value.slice.injEq] at eo
  obtain ⟨rfl, _, rfl⟩ := eo
  refine G.loop (ι := Nat × List (Value × List Value) × List (List Rat)) (fun i => [(3, .v s.ptr), (4, .v (.int .i64 (n : Int))), (5, .v (.slice ad n cd)), (6, .v (.slice (some ⟨go, 0, none⟩) n cI)), (51, .v (.int .i64 (n : Int))), (52, .v (.int .i64 (i.1 : Int)))]) (fun _ => [])
    (fun i u' m' => i.1 ≤ n ∧ SAt i.2.1 i.2.2 ∧ i.2.2.length = n ∧ (∀ x, x < n → gM i.2.2 x = if x < i.1 then (List.replicate n 0).set x (gR d x) else idRow n x) ∧ Bag m' (s.arr k3 :: omA (.slice (some ⟨go, 0, none⟩) n cI) i.2.1 :: i.2.1.map sRow))
    (fun i => n - i.1) (0, rows0, (List.range n).map (idRow n)) (by kernel_rfl) (fun _ => by kernel_rfl) ⟨by kernel_rfl, by kernel_rfl, by kernel_rfl⟩
    ⟨Nat.zero_le _, hS0, by simp, fun x hx => by dsimp only; rw [if_neg (Nat.not_lt_zero _)]; simp [gM, hx], hbag1⟩ ?_
  clear hbag1 hbag0 hS0 hr0
  rintro J ⟨i, rows, M⟩ hJ u5 m5 l5 ⟨hi, hS, hMl, hM, hbag⟩
  simp only at hi hS hMl hM hbag hJ
  have hrl : rows.length = n := by rw [hS.1, hMl]
  by_cases hlt : i < n
  · refine G.lssT (i : Int) (n : Int) (by kernel_rfl) (by omega) ?_
    have hri : rows[i]? = some rows[i] := List.getElem?_eq_getElem (by omega)
    have hci := hS.2 i _ hri
    obtain ⟨⟨vi, ei⟩, hei⟩ : ∃ x, rows[i] = x := ⟨_, rfl⟩
    rw [hei] at hri hci
    simp only at hci
    have hgi := hM i hlt
    rw [if_neg (Nat.lt_irrefl _)] at hgi
    have hil : ei.length = n := by rw [hci, hgi]; simp [strsV, idRow]
    obtain ⟨g1, c1, e1⟩ := hbag.ptr (i + 2) (get_srow hri) (by intro e; simp only [sRow] at e; rw [e] at hil; simp at hil; omega)
    simp only [sRow] at e1
    rw [hil] at e1
    subst e1
    have ho1 : ElP m5 go (0 + i * 1) (.slice (some ⟨g1, 0, none⟩) n c1) := hbag.el 1 (x := omA _ rows) rfl rfl (by show (rows.map (·.1))[i]? = _; rw [List.getElem?_map, hri]; rfl)
    have hid : i < d.length := by omega
    obtain ⟨b6, o6, rfl, e6⟩ := ListP.at' (ListP.mono hd (l4.trans l5)) (j := i) (e := .string (mkS (ratT (gR d i)))) (by simp [strsV, List.getElem?_eq_getElem hid, gR_at hid])
    refine G.addr go 0 n cI i 1 (by kernel_rfl) hlt ?_
    refine G.loadM none go (0 + i * 1) _ (by kernel_rfl) (by kernel_rfl) ho1 ?_
    refine G.addr b6 o6 n cd i 1 (by kernel_rfl) hlt ?_
    refine G.loadU none b6 (o6 + i * 1) _ (by kernel_rfl) (by kernel_rfl) e6 ?_
    obtain ⟨m0, hx0, hput⟩ := hbag.focus (i + 2) (get_srow hri)
    rw [sRow_at] at hx0
    refine G.addr g1 0 n c1 i 1 (by kernel_rfl) hlt ?_
    refine G.storeA 1 m0 ei g1 n c1 i (.string (mkS (ratT (gR d i)))) (by kernel_rfl) hx0 (by omega) rfl rfl ?_
    intro m7 hx7
    have hbag2 := hput (sRow (.slice (some ⟨g1, 0, none⟩) n c1, ei.set i (.string (mkS (ratT (gR d i)))))) m7 hx7
    rw [set_srow] at hbag2
    have hom : omA (.slice (some ⟨go, 0, none⟩) n cI) (rows.set i (.slice (some ⟨g1, 0, none⟩) n c1, ei.set i (.string (mkS (ratT (gR d i)))))) = omA (.slice (some ⟨go, 0, none⟩) n cI) rows := by
      unfold omA; rw [map_fst_set (r' := (.slice (some ⟨g1, 0, none⟩) n c1, ei.set i (.string (mkS (ratT (gR d i)))))) hri rfl]
    refine G.add (i : Int) 1 ((i + 1 : Nat) : Int) (by kernel_rfl) (by omega) (by omega) (by omega) ?_
    refine G.back (by kernel_rfl) (hJ (i + 1, rows.set i (.slice (some ⟨g1, 0, none⟩) n c1, ei.set i (.string (mkS (ratT (gR d i))))), M.set i ((gM M i).set i (gR d i))) _ _ _ ⟨by kernel_rfl, by kernel_rfl, by kernel_rfl⟩ l5 ⟨by dsimp only; omega, ?_, by simp [hMl], ?_, by dsimp only; rw [hom]; exact hbag2⟩ (by dsimp only; omega))
    · refine hS.set (by omega) ?_
      dsimp only
      rw [hci]; unfold strsV; rw [← List.map_set, ← List.map_set]
    · intro x hx
      dsimp only
      rw [gM_set (by omega)]
      by_cases e : i = x
      · subst e
        rw [if_pos rfl, if_pos (by omega), hgi]
        unfold idRow; rw [List.set_set]
      · rw [if_neg e, hM x hx]
        by_cases hxi : x < i
        · rw [if_pos hxi, if_pos (by omega)]
        · rw [if_neg hxi, if_neg (by omega)]
  · obtain rfl : i = n := by omega
    refine G.lssF (i : Int) (i : Int) (by kernel_rfl) (by omega) ?_
    have hMd : M = diagM d := by
      refine ext_gM (by rw [diagM_length, hMl, hdl]) (fun x hx => ?_)
      rw [hM x (by omega), if_pos (by omega), gM_diag (by omega), hdl, set_rng _ (by omega)]
    subst hMd
    obtain ⟨m0, hsrc, hL⟩ := hbag
    obtain ⟨rfl, hg0⟩ := Src.split hsrc
    refine G.giveP (ma := m0) (sm := s.M k3) (by kernel_rfl) rfl (Src.apart hg0) (fun _ => .inl rfl) ?_
    intro u6 l6 hm6
    have hmA : MatP u6 (.slice (some ⟨go, 0, none⟩) i cI) (matT (diagM d)) := matOfBag hL hS hm6
    clear hL hsrc hS hm6 hJ hrl hM
    generalize i = n at *
    have hlu6 : PH.le u u6 := ((((l1.trans l2).trans l3).trans l4).trans l5).trans l6
    have hd0 : d ≠ [] := by intro e; rw [e] at hdl; simp at hdl; omega
    have hd3 : d.length ≤ 3 := by omega
    refine G.callA _ _ (by kernel_rfl) (by kernel_rfl) Tryz.call13 (mt_or _).symm (apart_mt _) (srcRat0 (hs.mono (((((l2.trans l3).trans l4).trans l5).trans l6))) hk3) ?_
    rintro v7 u7 m7 l7 ⟨x, k7, rfl, hx, hk7, rfl⟩ _
    rw [mt_or]
    have hd7 : StrsP u7 (.slice ad n cd) (d.map ratT) := ListP.mono hd (((l4.trans l5).trans l6).trans l7)
    refine G.loop (ι := Nat × Nat × Nat) (fun i => [(3, .v s.ptr), (4, .v (.int .i64 (n : Int))), (6, .v (.slice (some ⟨go, 0, none⟩) n cI)), (9, .v (.string (mkS (ratT x)))), (10, .v (.int .i64 (i.2.1 : Int))), (11, .v (.int .i64 (i.2.2 : Int))), (68, .v (.slice ad n cd)), (69, .v (.int .i64 (n : Int))), (70, .v (.int .i64 (i.1 : Int)))]) (fun _ => [])
      (fun i u' m' => i.1 ≤ n ∧ i.2.1 = cntL (d.take i.1) x ∧ i.2.2 = cntE (d.take i.1) x ∧ i.2.1 ≤ i.1 ∧ i.2.2 ≤ i.1 ∧ m' = s.M k7) (fun i => n - i.1) (0, 0, 0) (by kernel_rfl) (fun _ => by kernel_rfl) ⟨by kernel_rfl, by kernel_rfl, by kernel_rfl⟩ ⟨Nat.zero_le _, by simp [cntL], by simp [cntE], Nat.le_refl _, Nat.le_refl _, rfl⟩ ?_
    rintro J ⟨j, le, eq⟩ hJ u8 m8 l8 ⟨hj, hle, heq, hc1, hc2, rfl⟩
    simp only at hj hle heq hc1 hc2 hJ
    by_cases hltj : j < n
    · refine G.lssT (j : Int) (n : Int) (by kernel_rfl) (by omega) ?_
      have hjd : j < d.length := by omega
      have hq : SmR (gR d j) := hdS _ (gR_mem hjd)
      obtain ⟨ct1, ct2⟩ := cnt_take (d := d) (x := x) hjd
      obtain ⟨b9, o9, rfl, e9⟩ := ListP.at' (ListP.mono hd7 l8) (j := j) (e := .string (mkS (ratT (gR d j)))) (by simp [strsV, List.getElem?_eq_getElem hjd, gR_at hjd])
      refine G.addr b9 o9 n cd j 1 (by kernel_rfl) hltj ?_
      refine G.loadU none b9 (o9 + j * 1) _ (by kernel_rfl) (by kernel_rfl) e9 ?_
      refine G.call0 _ _ (by kernel_rfl) Tryz.call14 (refCompare0 hq.tx hx.tx) ?_
      rintro v10 u10 l10 rfl
      rw [sgn_num]
      rcases sg_cases (gR d j - x) with ⟨h, e⟩ | ⟨h, e⟩ | ⟨h, e⟩
      · have h1 : gR d j < x := by grind
        have h2 : ¬ gR d j = x := by grind
        rw [if_pos h1] at ct1
        rw [if_neg h2] at ct2
        refine G.eqlT (sg (gR d j - x)) (-1) (by kernel_rfl) e ?_
        refine G.add (le : Int) 1 ((le + 1 : Nat) : Int) (by kernel_rfl) (by omega) (by omega) (by omega) ?_
        refine G.add (j : Int) 1 ((j + 1 : Nat) : Int) (by kernel_rfl) (by omega) (by omega) (by omega) ?_
        exact G.back (by kernel_rfl) (hJ (j + 1, le + 1, eq) _ _ _ ⟨by kernel_rfl, by kernel_rfl, by kernel_rfl⟩ (l8.trans l10) ⟨by dsimp only; omega, by dsimp only; omega, by dsimp only; omega, by dsimp only; omega, by dsimp only; omega, rfl⟩ (by dsimp only; omega))
      · have h1 : ¬ gR d j < x := by grind
        have h2 : gR d j = x := by grind
        rw [if_neg h1] at ct1
        rw [if_pos h2] at ct2
        refine G.eqlF (sg (gR d j - x)) (-1) (by kernel_rfl) (by rw [e]; omega) ?_
        refine G.eqlT (sg (gR d j - x)) 0 (by kernel_rfl) e ?_
        refine G.add (eq : Int) 1 ((eq + 1 : Nat) : Int) (by kernel_rfl) (by omega) (by omega) (by omega) ?_
        refine G.add (j : Int) 1 ((j + 1 : Nat) : Int) (by kernel_rfl) (by omega) (by omega) (by omega) ?_
        exact G.back (by kernel_rfl) (hJ (j + 1, le, eq + 1) _ _ _ ⟨by kernel_rfl, by kernel_rfl, by kernel_rfl⟩ (l8.trans l10) ⟨by dsimp only; omega, by dsimp only; omega, by dsimp only; omega, by dsimp only; omega, by dsimp only; omega, rfl⟩ (by dsimp only; omega))
      · have h1 : ¬ gR d j < x := by grind
        have h2 : ¬ gR d j = x := by grind
        rw [if_neg h1] at ct1
        rw [if_neg h2] at ct2
        refine G.eqlF (sg (gR d j - x)) (-1) (by kernel_rfl) (by rw [e]; omega) ?_
        refine G.eqlF (sg (gR d j - x)) 0 (by kernel_rfl) (by rw [e]; omega) ?_
        refine G.add (j : Int) 1 ((j + 1 : Nat) : Int) (by kernel_rfl) (by omega) (by omega) (by omega) ?_
        exact G.back (by kernel_rfl) (hJ (j + 1, le, eq) _ _ _ ⟨by kernel_rfl, by kernel_rfl, by kernel_rfl⟩ (l8.trans l10) ⟨by dsimp only; omega, by dsimp only; omega, by dsimp only; omega, by dsimp only; omega, by dsimp only; omega, rfl⟩ (by dsimp only; omega))
    · obtain rfl : j = n := by omega
      refine G.lssF (j : Int) (j : Int) (by kernel_rfl) (by omega) ?_
      have htk : d.take j = d := by rw [← hdl]; exact List.take_length
      rw [htk] at hle heq
      subst hle heq
      clear hJ
      have hnd := niceDiag hdS hd3
      have hdlen := diagM_length d
      have hxN : NiceX x (diagM d).length 12 := niceX12 hx.tw _
      have hbe := fun (u' : PH) (v : Value) (ht' : TabU u') (hv : MatP u' v (matT (diagM d))) => belowM0 (x := x) ht' hv hnd hxN (by rw [hdlen]; exact cb12 hd3)
      have hpo := fun (u' : PH) (v : Value) (ht' : TabU u') (hv : MatP u' v (matT (diagM d))) => polynomial0 ht' hv hnd (fun q hq => tx_of_sz (diag_tx hdS hd0 hd3 q hq))
      rw [diag_less d x hd0 hd3, diag_equal d x hd0 hd3] at hbe
      have hlu8 : PH.le u u8 := (hlu6.trans l7).trans l8
      refine G.call0 _ _ (by kernel_rfl) Tryz.call15 (hbe _ _ (ht.mono hlu8) (hmA.mono (l7.trans l8))) ?_
      rintro v9 u9 l9 rfl
      refine G.call0 _ _ (by kernel_rfl) Tryz.call16 (hpo _ _ (ht.mono (hlu8.trans l9)) (hmA.mono ((l7.trans l8).trans l9))) ?_
      rintro v10 u10 l10 ⟨r10, rfl, kp⟩
      have hcl : (charL (diagM d)).length = j + 1 := by rw [charL_length, hdlen, hdl]
      have hpsz := diag_tx hdS hd0 hd3
      have hev := diag_eval d x hd0 hd3
      rw [hdl] at hev
      generalize charL (diagM d) = p at *
      obtain ⟨ap, cp, rfl⟩ := ListP.opn kp
      have hpl : (strsV (p.map ratT)).length = j + 1 := by simp [strsV, hcl]
      rw [hpl] at kp ⊢
      refine G.neqF 0 0 (by kernel_rfl) (by omega) ?_
      refine G.neqF 0 0 (by kernel_rfl) (by omega) ?_
      refine G.neqF (cntL d x : Int) (cntL d x : Int) (by kernel_rfl) (by omega) ?_
      refine G.neqF (cntE d x : Int) (cntE d x : Int) (by kernel_rfl) (by omega) ?_
      refine G.add (j : Int) 1 ((j + 1 : Nat) : Int) (by kernel_rfl) (by omega) (by omega) (by omega) ?_
      refine G.neqF ((j + 1 : Nat) : Int) ((j + 1 : Nat) : Int) (by kernel_rfl) (by omega) ?_
      refine G.call0 _ _ (by kernel_rfl) Tryz.call17 (refOf0 (z := 0) (by omega) (by omega)) ?_
      intro v11 u11 l11 k11
      rw [show ((0 : Int) : Rat) = 0 from by decide] at k11
      obtain ⟨f11, rfl⟩ := k11.opQ
      refine G.sub ((j + 1 : Nat) : Int) 1 (j : Int) (by kernel_rfl) (by omega) (by omega) (by omega) ?_
      refine G.loop (ι := Int × Nat × Q4 × Rat) (fun i => [(3, .v s.ptr), (4, .v (.int .i64 (j : Int))), (9, .v (.string (mkS (ratT x)))), (11, .v (.int .i64 (cntE d x : Int))), (17, .v (.slice ap (j + 1) cp)), (19, .p 27001 0), (20, .v (.int .i64 i.1))])
        (fun i => [(27001, ⟨44, qc i.2.2.1⟩)])
        (fun i u' m' => i.1 = (i.2.1 : Int) - 1 ∧ i.2.1 ≤ j + 1 ∧ evalGo x p i.2.1 i.2.2.2 = evalGo x p (j + 1) 0 ∧ Sz i.2.2.2 (1 + 40 * (j + 1 - i.2.1)) ∧ QP u' (qv i.2.2.1) i.2.2.2 ∧ m' = s.M k7) (fun i => i.2.1) ((j : Int), j + 1, f11, 0) (by kernel_rfl) (fun _ => by kernel_rfl) ⟨by kernel_rfl, by kernel_rfl, by kernel_rfl⟩
        ⟨by dsimp only; omega, Nat.le_refl _, rfl, sz_zero.mono (by omega), k11, rfl⟩ ?_
      rintro J ⟨z, t, f, w⟩ hJ u12 m12 l12 ⟨hz, htj, hgo, hsw, hw, rfl⟩
      simp only at hz htj hgo hsw hw hJ
      by_cases hz0 : 0 ≤ z
      · obtain ⟨y, rfl⟩ : ∃ y : Nat, z = (y : Int) := ⟨z.toNat, by omega⟩
        obtain rfl : t = y + 1 := by omega
        refine G.geqT (y : Int) 0 (by kernel_rfl) (by omega) ?_
        have hyp : y < p.length := by omega
        have hsp := hpsz.at hyp
        obtain ⟨b13, o13, rfl, e13⟩ := ListP.at' (ListP.mono kp (l11.trans l12)) (j := y) (e := .string (mkS (ratT (gR p y)))) (by simp [strsV, List.getElem?_eq_getElem hyp, gR_at hyp])
        refine G.addr b13 o13 (j + 1) cp y 1 (by kernel_rfl) (by omega) ?_
        refine G.loadU none b13 (o13 + y * 1) _ (by kernel_rfl) (by kernel_rfl) e13 ?_
        refine G.call0 _ _ (by kernel_rfl) Tryz.call19 (refReadT hx.tx) ?_
        intro v14 u14 l14 k14
        obtain ⟨f14, rfl⟩ := k14.opQ
        refine G.call0 _ _ (by kernel_rfl) Tryz.call18 (refMul0 (hw.mono l14) k14 (hsw.mono (by omega)) (hx.sz.mono (by omega))) ?_
        intro v15 u15 l15 k15
        obtain ⟨f15, rfl⟩ := k15.opQ
        refine G.call0 _ _ (by kernel_rfl) Tryz.call19 (refReadT (tx_of_sz hsp)) ?_
        intro v16 u16 l16 k16
        obtain ⟨f16, rfl⟩ := k16.opQ
        have hsm := sz_mul2 hsw hx.sz
        refine G.call0 _ _ (by kernel_rfl) Tryz.call20 (refAdd0 (k15.mono l16) k16 (hsm.mono (by omega)) (hsp.mono (by omega))) ?_
        intro v17 u17 l17 k17
        obtain ⟨f17, rfl⟩ := k17.opQ
        refine G.sub (y : Int) 1 ((y : Int) - 1) (by kernel_rfl) rfl (by omega) (by omega) ?_
        exact G.back (by kernel_rfl) (hJ ((y : Int) - 1, y, f17, w * x + gR p y) _ _ _ ⟨by kernel_rfl, by kernel_rfl, by kernel_rfl⟩ ((((l12.trans l14).trans l15).trans l16).trans l17) ⟨rfl, by dsimp only; omega, by rw [← hgo, evalGo], (sz_add2 hsm hsp).mono (by dsimp only; omega), k17, rfl⟩ (by dsimp only; omega))
      · obtain rfl : t = 0 := by omega
        refine G.geqF z 0 (by kernel_rfl) (by omega) ?_
        rw [evalGo] at hgo
        rw [← hgo] at hev
        have hwz : decide (w.num = 0) = decide (0 < cntE d x) := decide_eq_decide.2 (Rat.num_eq_zero.trans hev)
        refine G.call0 _ _ (by kernel_rfl) Tryz.call21 (refZero0 hw (Nat.le_trans hsw.1 (by omega))) ?_
        rintro v13 u13 l13 rfl
        have hl13 : PH.le u8 u13 := (((l9.trans l10).trans l11).trans l12).trans l13
        by_cases hc0 : 0 < cntE d x
        · rw [hwz, decide_eq_true hc0]
          refine G.gtrT (cntE d x : Int) 0 (by kernel_rfl) (by omega) ?_
          refine G.neB true true (by kernel_rfl) ?_
          have hs13 : SrcOK u13 s ts := hs.mono (((((((l2.trans l3).trans l4).trans l5).trans l6).trans l7).trans l8).trans hl13)
          have hlu13 : PH.le u u13 := hlu8.trans hl13
          refine G.callA _ _ (by kernel_rfl) (by kernel_rfl) Tryz.call22 (mt_or _).symm (apart_mt _) (srcSymmetric0 (n := j) hs13 hk7 (by omega) (by omega)) ?_
          rintro v14 u14 m14 l14 ⟨B, k14, hB, hBl, hBT, hBs, hk14, rfl⟩ _
          rw [mt_or]
          obtain ⟨aB, cB, rfl⟩ := hB.opn
          rw [matT_length, hBl] at hB ⊢
          refine G.callA _ _ (by kernel_rfl) (by kernel_rfl) Tryz.call13 (mt_or _).symm (apart_mt _) (srcRat0 (hs13.mono l14) hk14) ?_
          rintro v15 u15 m15 l15 ⟨m, k15, rfl, hm, hk15, rfl⟩ _
          rw [mt_or]
          obtain ⟨esB, hLB, hRB⟩ := hB.mono l15
          have hesl : esB.length = j := by rw [hRB.1, matT_length, hBl]
          have hBrow : ∀ y, y < j → ∃ ay cy, esB[y]? = some (.slice ay j cy) ∧ StrsP u15 (.slice ay j cy) ((gM B y).map ratT) := fun y hy => by
            obtain ⟨ay, cy, h1, h2⟩ := hRB.2 y ((gM B y).map ratT) (by rw [matT, List.getElem?_map, List.getElem?_eq_getElem (by omega : y < B.length), gM_at (by omega)]; rfl)
            rw [List.length_map, (hBT y (by omega)).1] at h1 h2
            exact ⟨ay, cy, h1, h2⟩
          have hBok : ElsOK 1 esB := rows_ok fun e he => by
            obtain ⟨y, hy, rfl⟩ := List.mem_iff_getElem.1 he
            obtain ⟨ay, cy, h1, _⟩ := hBrow y (by omega)
            rw [List.getElem?_eq_getElem hy] at h1
            exact ⟨ay, j, cy, Option.some.inj h1⟩
          obtain ⟨bB, oB, rfl, _⟩ := ListP.at' hLB (j := 0) (List.getElem?_eq_getElem (by omega))
          refine G.append 27 1 24 (.slice none 0 0) (s.M k15) [] esB (.slice none 0 0) bB oB j cB (by kernel_rfl) rfl rfl (by omega) (ArrAt.nil _ _ _) hLB.els hBok hesl (by omega) (by simp; omega) (by simp; omega) ?_
          intro v16 m16 hx16
          rw [List.nil_append] at hx16
          obtain ⟨gm, cm, rfl⟩ := hx16.ptr (by intro e; rw [e] at hesl; simp at hesl; omega)
          rw [hesl] at hx16 ⊢
          have hbag0 : Bag m16 (s.arr k15 :: mvA (.slice (some ⟨gm, 0, none⟩) j cm) esB :: []) := by
            have h0 : Bag m16 (mvA (.slice (some ⟨gm, 0, none⟩) j cm) esB :: [s.arr k15]) := ⟨_, hx16, s.bag0 k15 trivial⟩
            exact Bag.perm (List.Perm.swap _ _ _) h0
          refine G.loop (ι := Nat × List (Value × List Value)) (fun i => [(9, .v (.string (mkS (ratT x)))), (21, .v (.slice (some ⟨bB, oB, none⟩) j cB)), (22, .v (.string (mkS (ratT m)))), (23, .v (.slice (some ⟨gm, 0, none⟩) j cm)), (152, .v (.int .i64 (j : Int))), (153, .v (.int .i64 (i.1 : Int)))]) (fun _ => [])
            (fun i u' m' => i.1 ≤ j ∧ i.2.length = i.1 ∧ (∀ y q, i.2[y]? = some q → q.2 = strsV ((gM (mvM m B) y).map ratT)) ∧ Bag m' (s.arr k15 :: mvA (.slice (some ⟨gm, 0, none⟩) j cm) (i.2.map (·.1) ++ esB.drop i.1) :: i.2.map sRow))
            (fun i => j - i.1) (0, []) (by kernel_rfl) (fun _ => by kernel_rfl) ⟨by kernel_rfl, by kernel_rfl, by kernel_rfl⟩ ⟨Nat.zero_le _, rfl, fun y q hy => by simp at hy, by simpa using hbag0⟩ ?_
          clear hbag0
          rintro J9 ⟨y, rws⟩ hJ9 u17 m17 l17 ⟨hy, hrwl, hrw, hbag⟩
          simp only at hy hrwl hrw hbag hJ9
          by_cases hlty : y < j
          · refine G.lssT (y : Int) (j : Int) (by kernel_rfl) (by omega) ?_
            obtain ⟨ay, cy, hey, hSy⟩ := hBrow y hlty
            have hgl : (gM B y).length = j := (hBT y (by omega)).1
            have hyB : y < (gM B y).length := by omega
            obtain ⟨by', oy, rfl, _⟩ := ListP.at' hSy (j := 0) (e := (strsV ((gM B y).map ratT))[0]'(by simp [strsV]; omega)) (List.getElem?_eq_getElem _)
            have hsl : (strsV ((gM B y).map ratT)).length = j := by simp [strsV, hgl]
            have hel0 : ElP m17 gm (0 + y * 1) (.slice (some ⟨by', oy, none⟩) j cy) := hbag.el 1 (x := mvA _ _) rfl rfl (by show (rws.map (·.1) ++ esB.drop y)[y]? = _; rw [List.getElem?_append_right (by simp; omega)]; simp [hrwl, hey])
            refine G.addr gm 0 j cm y 1 (by kernel_rfl) hlty ?_
            refine G.loadM none gm (0 + y * 1) _ (by kernel_rfl) (by kernel_rfl) hel0 ?_
            refine G.append 34 1 16 (.string (mkS [])) m17 [] (strsV ((gM B y).map ratT)) (.slice none 0 0) by' oy j cy (by kernel_rfl) rfl rfl (by omega) (ArrAt.nil _ _ _) (ListP.els (ListP.mono hSy l17)) (strsV_ok _) hsl (by omega) (by simp; omega) (by simp; omega) ?_
            intro v18 m18 hx18
            rw [List.nil_append] at hx18
            obtain ⟨gn, cn, rfl⟩ := hx18.ptr (by intro e; rw [e] at hsl; simp at hsl; omega)
            rw [hsl] at hx18 ⊢
            have hbag2 : Bag m18 (sRow (.slice (some ⟨gn, 0, none⟩) j cn, strsV ((gM B y).map ratT)) :: s.arr k15 :: mvA (.slice (some ⟨gm, 0, none⟩) j cm) (rws.map (·.1) ++ esB.drop y) :: rws.map sRow) := ⟨m17, hx18, hbag⟩
            obtain ⟨m0, hx0, hput⟩ := hbag2.focus 2 rfl
            rw [mvA_at] at hx0
            refine G.addr gm 0 j cm y 1 (by kernel_rfl) hlty ?_
            refine G.storeA 1 m0 _ gm j cm y (.slice (some ⟨gn, 0, none⟩) j cn) (by kernel_rfl) hx0 (by simp; omega) rfl rfl ?_
            intro m19 hx19
            have hset : (rws.map (·.1) ++ esB.drop y).set y (Value.slice (some ⟨gn, 0, none⟩) j cn) = (rws.map (·.1) ++ [Value.slice (some ⟨gn, 0, none⟩) j cn]) ++ esB.drop (y + 1) := by
              rw [List.set_append_right _ _ (by simp; omega)]
              simp only [List.length_map, hrwl, Nat.sub_self, List.append_assoc]
              rw [List.drop_eq_getElem_cons (by omega : y < esB.length)]; rfl
            rw [hset] at hx19
            have hbag3 := hput (mvA (.slice (some ⟨gm, 0, none⟩) j cm) ((rws.map (·.1) ++ [Value.slice (some ⟨gn, 0, none⟩) j cn]) ++ esB.drop (y + 1))) m19 hx19
            have hel1 : ElP m19 gm (0 + y * 1) (.slice (some ⟨gn, 0, none⟩) j cn) := hbag3.el 2 (x := mvA _ _) rfl rfl (by show ((rws.map (·.1) ++ [Value.slice (some ⟨gn, 0, none⟩) j cn]) ++ esB.drop (y + 1))[y]? = _; rw [List.getElem?_append_left (by simp; omega), List.getElem?_append_right (by simp; omega)]; simp [hrwl])
            have hel2 : ElP m19 gn (0 + y * 1) (.string (mkS (ratT (gR (gM B y) y)))) := hbag3.el 0 (x := sRow _) rfl rfl (by show (strsV ((gM B y).map ratT))[y]? = _; simp [strsV, List.getElem?_eq_getElem hyB, gR_at hyB])
            refine G.addr gm 0 j cm y 1 (by kernel_rfl) hlty ?_
            refine G.loadM none gm (0 + y * 1) _ (by kernel_rfl) (by kernel_rfl) hel1 ?_
            refine G.addr gm 0 j cm y 1 (by kernel_rfl) hlty ?_
            refine G.loadM none gm (0 + y * 1) _ (by kernel_rfl) (by kernel_rfl) hel1 ?_
            refine G.addr gn 0 j cn y 1 (by kernel_rfl) hlty ?_
            refine G.loadM none gn (0 + y * 1) _ (by kernel_rfl) (by kernel_rfl) hel2 ?_
            have hqy : SmR (gR (gM B y) y) := ((hBT y (by omega)).2 _ (gR_mem hyB)).smR
            refine G.call0 _ _ (by kernel_rfl) Tryz.call23 (refAddT hqy.tx hm.tx ((hqy.t12.add hm.t12).tw (by omega)).tx) ?_
            rintro v20 u20 l20 rfl
            obtain ⟨m0', hx0', hput'⟩ := hbag3.focus 0 rfl
            rw [sRow_at] at hx0'
            refine G.addr gn 0 j cn y 1 (by kernel_rfl) hlty ?_
            refine G.storeA 1 m0' _ gn j cn y (.string (mkS (ratT (gR (gM B y) y + m)))) (by kernel_rfl) hx0' (by simp [strsV]; omega) rfl rfl ?_
            intro m21 hx21
            have hrowe : (strsV ((gM B y).map ratT)).set y (.string (mkS (ratT (gR (gM B y) y + m)))) = strsV ((gM (mvM m B) y).map ratT) := by
              rw [gM_mv (by omega)]; unfold strsV; rw [← List.map_set, ← List.map_set]
            simp only at hx21
            rw [hrowe] at hx21
            have hbag4 := hput' (sRow (.slice (some ⟨gn, 0, none⟩) j cn, strsV ((gM (mvM m B) y).map ratT))) m21 hx21
            have hbag5 := Bag.perm perm_row3 hbag4
            refine G.add (y : Int) 1 ((y + 1 : Nat) : Int) (by kernel_rfl) (by omega) (by omega) (by omega) ?_
            refine G.back (by kernel_rfl) (hJ9 (y + 1, rws ++ [(Value.slice (some ⟨gn, 0, none⟩) j cn, strsV ((gM (mvM m B) y).map ratT))]) _ _ _ ⟨by kernel_rfl, by kernel_rfl, by kernel_rfl⟩ (l17.trans l20) ⟨by dsimp only; omega, by simp [hrwl], ?_, by simpa using hbag5⟩ (by dsimp only; omega))
            intro y' q hq
            dsimp only at hq
            by_cases hyy : y' < rws.length
            · rw [List.getElem?_append_left hyy] at hq; exact hrw y' q hq
            · rw [List.getElem?_append_right (by omega)] at hq
              have : y' = y := by
                rcases Nat.eq_zero_or_pos (y' - rws.length) with h0 | h0
                · omega
                · rw [List.getElem?_eq_none (by simp; omega)] at hq; cases hq
              subst this
              rw [hrwl, Nat.sub_self] at hq
              simp at hq; subst hq; rfl
          · obtain rfl : y = j := by omega
            refine G.lssF (y : Int) (y : Int) (by kernel_rfl) (by omega) ?_
            rw [List.drop_of_length_le (by omega), List.append_nil] at hbag
            obtain ⟨m0, hsrc, hL⟩ := hbag
            obtain ⟨rfl, hg0'⟩ := Src.split hsrc
            refine G.giveP (ma := m0) (sm := s.M k15) (by kernel_rfl) rfl (Src.apart hg0') (fun _ => .inl rfl) ?_
            intro u18 l18 hm18
            have hSA : SAt rws (mvM m B) := ⟨by rw [hrwl, mvM_length, hBl], hrw⟩
            have hmM : MatP u18 (.slice (some ⟨gm, 0, none⟩) y cm) (matT (mvM m B)) := matOfBag hL hSA hm18
            have hxm : Tw (x + m) := (hx.t12.add hm.t12).tw (by omega)
            refine G.call0 _ _ (by kernel_rfl) Tryz.call23 (refAddT hx.tx hm.tx hxm.tx) ?_
            rintro v19 u19 l19 rfl
            have hnB := niceThin hBl (by omega) hBT hBs
            have hnM := niceMoved hBl (by omega) hBT hBs hm
            obtain ⟨hsm1, hsm2⟩ := moved_same (thin_sq hBl hBT) (by omega) (by omega) x m
            have hlu19 : PH.le u u19 := ((((hlu13.trans l14).trans l15).trans l17).trans l18).trans l19
            refine G.call0 _ _ (by kernel_rfl) Tryz.call15 (belowM0 (x := x) (ht.mono hlu19) (hB.mono (((l15.trans l17).trans l18).trans l19)) hnB (niceX12 hx.tw _) (by rw [hBl]; exact cb12 (by omega))) ?_
            rintro v20 u20 l20 rfl
            refine G.call0 _ _ (by kernel_rfl) Tryz.call15 (belowM0 (x := x + m) (ht.mono (hlu19.trans l20)) (hmM.mono (l19.trans l20)) hnM (niceX12 hxm _) (by rw [mvM_length, hBl]; exact cb12 (by omega))) ?_
            rintro v21 u21 l21 rfl
            refine G.eqlT 0 0 (by kernel_rfl) rfl ?_
            refine G.eqlT 0 0 (by kernel_rfl) rfl ?_
            refine G.eqlT (lessL (charL B) x) (lessL (charL (mvM m B)) (x + m)) (by kernel_rfl) hsm1.symm ?_
            refine G.eqlT (equalL (charL B) x : Int) (equalL (charL (mvM m B)) (x + m) : Int) (by kernel_rfl) (by rw [hsm2]) ?_
            refine G.call0 _ _ (by kernel_rfl) Tryz.call8 (sane0 (ht.mono ((hlu19.trans l20).trans l21))) ?_
            rintro v22 u22 l22 rfl
            refine G.drop PH.mt (by kernel_rfl) (PH.mt_le _) ?_
            exact G.ret (.bool true) (by kernel_rfl) ⟨rfl, rfl⟩
        · rw [hwz, decide_eq_false hc0]
          refine G.gtrF (cntE d x : Int) 0 (by kernel_rfl) (by omega) ?_
          refine G.neB false false (by kernel_rfl) ?_
          have hs13 : SrcOK u13 s ts := hs.mono (((((((l2.trans l3).trans l4).trans l5).trans l6).trans l7).trans l8).trans hl13)
          have hlu13 : PH.le u u13 := hlu8.trans hl13
          refine G.callA _ _ (by kernel_rfl) (by kernel_rfl) Tryz.call22 (mt_or _).symm (apart_mt _) (srcSymmetric0 (n := j) hs13 hk7 (by omega) (by omega)) ?_
          rintro v14 u14 m14 l14 ⟨B, k14, hB, hBl, hBT, hBs, hk14, rfl⟩ _
          rw [mt_or]
          obtain ⟨aB, cB, rfl⟩ := hB.opn
          rw [matT_length, hBl] at hB ⊢
          refine G.callA _ _ (by kernel_rfl) (by kernel_rfl) Tryz.call13 (mt_or _).symm (apart_mt _) (srcRat0 (hs13.mono l14) hk14) ?_
          rintro v15 u15 m15 l15 ⟨m, k15, rfl, hm, hk15, rfl⟩ _
          rw [mt_or]
          obtain ⟨esB, hLB, hRB⟩ := hB.mono l15
          have hesl : esB.length = j := by rw [hRB.1, matT_length, hBl]
          have hBrow : ∀ y, y < j → ∃ ay cy, esB[y]? = some (.slice ay j cy) ∧ StrsP u15 (.slice ay j cy) ((gM B y).map ratT) := fun y hy => by
            obtain ⟨ay, cy, h1, h2⟩ := hRB.2 y ((gM B y).map ratT) (by rw [matT, List.getElem?_map, List.getElem?_eq_getElem (by omega : y < B.length), gM_at (by omega)]; rfl)
            rw [List.length_map, (hBT y (by omega)).1] at h1 h2
            exact ⟨ay, cy, h1, h2⟩
          have hBok : ElsOK 1 esB := rows_ok fun e he => by
            obtain ⟨y, hy, rfl⟩ := List.mem_iff_getElem.1 he
            obtain ⟨ay, cy, h1, _⟩ := hBrow y (by omega)
            rw [List.getElem?_eq_getElem hy] at h1
            exact ⟨ay, j, cy, Option.some.inj h1⟩
          obtain ⟨bB, oB, rfl, _⟩ := ListP.at' hLB (j := 0) (List.getElem?_eq_getElem (by omega))
          refine G.append 27 1 24 (.slice none 0 0) (s.M k15) [] esB (.slice none 0 0) bB oB j cB (by kernel_rfl) rfl rfl (by omega) (ArrAt.nil _ _ _) hLB.els hBok hesl (by omega) (by simp; omega) (by simp; omega) ?_
          intro v16 m16 hx16
          rw [List.nil_append] at hx16
          obtain ⟨gm, cm, rfl⟩ := hx16.ptr (by intro e; rw [e] at hesl; simp at hesl; omega)
          rw [hesl] at hx16 ⊢
          have hbag0 : Bag m16 (s.arr k15 :: mvA (.slice (some ⟨gm, 0, none⟩) j cm) esB :: []) := by
            have h0 : Bag m16 (mvA (.slice (some ⟨gm, 0, none⟩) j cm) esB :: [s.arr k15]) := ⟨_, hx16, s.bag0 k15 trivial⟩
            exact Bag.perm (List.Perm.swap _ _ _) h0
          refine G.loop (ι := Nat × List (Value × List Value)) (fun i => [(9, .v (.string (mkS (ratT x)))), (21, .v (.slice (some ⟨bB, oB, none⟩) j cB)), (22, .v (.string (mkS (ratT m)))), (23, .v (.slice (some ⟨gm, 0, none⟩) j cm)), (152, .v (.int .i64 (j : Int))), (153, .v (.int .i64 (i.1 : Int)))]) (fun _ => [])
            (fun i u' m' => i.1 ≤ j ∧ i.2.length = i.1 ∧ (∀ y q, i.2[y]? = some q → q.2 = strsV ((gM (mvM m B) y).map ratT)) ∧ Bag m' (s.arr k15 :: mvA (.slice (some ⟨gm, 0, none⟩) j cm) (i.2.map (·.1) ++ esB.drop i.1) :: i.2.map sRow))
            (fun i => j - i.1) (0, []) (by kernel_rfl) (fun _ => by kernel_rfl) ⟨by kernel_rfl, by kernel_rfl, by kernel_rfl⟩ ⟨Nat.zero_le _, rfl, fun y q hy => by simp at hy, by simpa using hbag0⟩ ?_
          clear hbag0
          rintro J9 ⟨y, rws⟩ hJ9 u17 m17 l17 ⟨hy, hrwl, hrw, hbag⟩
          simp only at hy hrwl hrw hbag hJ9
          by_cases hlty : y < j
          · refine G.lssT (y : Int) (j : Int) (by kernel_rfl) (by omega) ?_
            obtain ⟨ay, cy, hey, hSy⟩ := hBrow y hlty
            have hgl : (gM B y).length = j := (hBT y (by omega)).1
            have hyB : y < (gM B y).length := by omega
            obtain ⟨by', oy, rfl, _⟩ := ListP.at' hSy (j := 0) (e := (strsV ((gM B y).map ratT))[0]'(by simp [strsV]; omega)) (List.getElem?_eq_getElem _)
            have hsl : (strsV ((gM B y).map ratT)).length = j := by simp [strsV, hgl]
            have hel0 : ElP m17 gm (0 + y * 1) (.slice (some ⟨by', oy, none⟩) j cy) := hbag.el 1 (x := mvA _ _) rfl rfl (by show (rws.map (·.1) ++ esB.drop y)[y]? = _; rw [List.getElem?_append_right (by simp; omega)]; simp [hrwl, hey])
            refine G.addr gm 0 j cm y 1 (by kernel_rfl) hlty ?_
            refine G.loadM none gm (0 + y * 1) _ (by kernel_rfl) (by kernel_rfl) hel0 ?_
            refine G.append 34 1 16 (.string (mkS [])) m17 [] (strsV ((gM B y).map ratT)) (.slice none 0 0) by' oy j cy (by kernel_rfl) rfl rfl (by omega) (ArrAt.nil _ _ _) (ListP.els (ListP.mono hSy l17)) (strsV_ok _) hsl (by omega) (by simp; omega) (by simp; omega) ?_
            intro v18 m18 hx18
            rw [List.nil_append] at hx18
            obtain ⟨gn, cn, rfl⟩ := hx18.ptr (by intro e; rw [e] at hsl; simp at hsl; omega)
            rw [hsl] at hx18 ⊢
            have hbag2 : Bag m18 (sRow (.slice (some ⟨gn, 0, none⟩) j cn, strsV ((gM B y).map ratT)) :: s.arr k15 :: mvA (.slice (some ⟨gm, 0, none⟩) j cm) (rws.map (·.1) ++ esB.drop y) :: rws.map sRow) := ⟨m17, hx18, hbag⟩
            obtain ⟨m0, hx0, hput⟩ := hbag2.focus 2 rfl
            rw [mvA_at] at hx0
            refine G.addr gm 0 j cm y 1 (by kernel_rfl) hlty ?_
            refine G.storeA 1 m0 _ gm j cm y (.slice (some ⟨gn, 0, none⟩) j cn) (by kernel_rfl) hx0 (by simp; omega) rfl rfl ?_
            intro m19 hx19
            have hset : (rws.map (·.1) ++ esB.drop y).set y (Value.slice (some ⟨gn, 0, none⟩) j cn) = (rws.map (·.1) ++ [Value.slice (some ⟨gn, 0, none⟩) j cn]) ++ esB.drop (y + 1) := by
              rw [List.set_append_right _ _ (by simp; omega)]
              simp only [List.length_map, hrwl, Nat.sub_self, List.append_assoc]
              rw [List.drop_eq_getElem_cons (by omega : y < esB.length)]; rfl
            rw [hset] at hx19
            have hbag3 := hput (mvA (.slice (some ⟨gm, 0, none⟩) j cm) ((rws.map (·.1) ++ [Value.slice (some ⟨gn, 0, none⟩) j cn]) ++ esB.drop (y + 1))) m19 hx19
            have hel1 : ElP m19 gm (0 + y * 1) (.slice (some ⟨gn, 0, none⟩) j cn) := hbag3.el 2 (x := mvA _ _) rfl rfl (by show ((rws.map (·.1) ++ [Value.slice (some ⟨gn, 0, none⟩) j cn]) ++ esB.drop (y + 1))[y]? = _; rw [List.getElem?_append_left (by simp; omega), List.getElem?_append_right (by simp; omega)]; simp [hrwl])
            have hel2 : ElP m19 gn (0 + y * 1) (.string (mkS (ratT (gR (gM B y) y)))) := hbag3.el 0 (x := sRow _) rfl rfl (by show (strsV ((gM B y).map ratT))[y]? = _; simp [strsV, List.getElem?_eq_getElem hyB, gR_at hyB])
            refine G.addr gm 0 j cm y 1 (by kernel_rfl) hlty ?_
            refine G.loadM none gm (0 + y * 1) _ (by kernel_rfl) (by kernel_rfl) hel1 ?_
            refine G.addr gm 0 j cm y 1 (by kernel_rfl) hlty ?_
            refine G.loadM none gm (0 + y * 1) _ (by kernel_rfl) (by kernel_rfl) hel1 ?_
            refine G.addr gn 0 j cn y 1 (by kernel_rfl) hlty ?_
            refine G.loadM none gn (0 + y * 1) _ (by kernel_rfl) (by kernel_rfl) hel2 ?_
            have hqy : SmR (gR (gM B y) y) := ((hBT y (by omega)).2 _ (gR_mem hyB)).smR
            refine G.call0 _ _ (by kernel_rfl) Tryz.call23 (refAddT hqy.tx hm.tx ((hqy.t12.add hm.t12).tw (by omega)).tx) ?_
            rintro v20 u20 l20 rfl
            obtain ⟨m0', hx0', hput'⟩ := hbag3.focus 0 rfl
            rw [sRow_at] at hx0'
            refine G.addr gn 0 j cn y 1 (by kernel_rfl) hlty ?_
            refine G.storeA 1 m0' _ gn j cn y (.string (mkS (ratT (gR (gM B y) y + m)))) (by kernel_rfl) hx0' (by simp [strsV]; omega) rfl rfl ?_
            intro m21 hx21
            have hrowe : (strsV ((gM B y).map ratT)).set y (.string (mkS (ratT (gR (gM B y) y + m)))) = strsV ((gM (mvM m B) y).map ratT) := by
              rw [gM_mv (by omega)]; unfold strsV; rw [← List.map_set, ← List.map_set]
            simp only at hx21
            rw [hrowe] at hx21
            have hbag4 := hput' (sRow (.slice (some ⟨gn, 0, none⟩) j cn, strsV ((gM (mvM m B) y).map ratT))) m21 hx21
            have hbag5 := Bag.perm perm_row3 hbag4
            refine G.add (y : Int) 1 ((y + 1 : Nat) : Int) (by kernel_rfl) (by omega) (by omega) (by omega) ?_
            refine G.back (by kernel_rfl) (hJ9 (y + 1, rws ++ [(Value.slice (some ⟨gn, 0, none⟩) j cn, strsV ((gM (mvM m B) y).map ratT))]) _ _ _ ⟨by kernel_rfl, by kernel_rfl, by kernel_rfl⟩ (l17.trans l20) ⟨by dsimp only; omega, by simp [hrwl], ?_, by simpa using hbag5⟩ (by dsimp only; omega))
            intro y' q hq
            dsimp only at hq
            by_cases hyy : y' < rws.length
            · rw [List.getElem?_append_left hyy] at hq; exact hrw y' q hq
            · rw [List.getElem?_append_right (by omega)] at hq
              have : y' = y := by
                rcases Nat.eq_zero_or_pos (y' - rws.length) with h0 | h0
                · omega
                · rw [List.getElem?_eq_none (by simp; omega)] at hq; cases hq
              subst this
              rw [hrwl, Nat.sub_self] at hq
              simp at hq; subst hq; rfl
          · obtain rfl : y = j := by omega
            refine G.lssF (y : Int) (y : Int) (by kernel_rfl) (by omega) ?_
            rw [List.drop_of_length_le (by omega), List.append_nil] at hbag
            obtain ⟨m0, hsrc, hL⟩ := hbag
            obtain ⟨rfl, hg0'⟩ := Src.split hsrc
            refine G.giveP (ma := m0) (sm := s.M k15) (by kernel_rfl) rfl (Src.apart hg0') (fun _ => .inl rfl) ?_
            intro u18 l18 hm18
            have hSA : SAt rws (mvM m B) := ⟨by rw [hrwl, mvM_length, hBl], hrw⟩
            have hmM : MatP u18 (.slice (some ⟨gm, 0, none⟩) y cm) (matT (mvM m B)) := matOfBag hL hSA hm18
            have hxm : Tw (x + m) := (hx.t12.add hm.t12).tw (by omega)
            refine G.call0 _ _ (by kernel_rfl) Tryz.call23 (refAddT hx.tx hm.tx hxm.tx) ?_
            rintro v19 u19 l19 rfl
            have hnB := niceThin hBl (by omega) hBT hBs
            have hnM := niceMoved hBl (by omega) hBT hBs hm
            obtain ⟨hsm1, hsm2⟩ := moved_same (thin_sq hBl hBT) (by omega) (by omega) x m
            have hlu19 : PH.le u u19 := ((((hlu13.trans l14).trans l15).trans l17).trans l18).trans l19
            refine G.call0 _ _ (by kernel_rfl) Tryz.call15 (belowM0 (x := x) (ht.mono hlu19) (hB.mono (((l15.trans l17).trans l18).trans l19)) hnB (niceX12 hx.tw _) (by rw [hBl]; exact cb12 (by omega))) ?_
            rintro v20 u20 l20 rfl
            refine G.call0 _ _ (by kernel_rfl) Tryz.call15 (belowM0 (x := x + m) (ht.mono (hlu19.trans l20)) (hmM.mono (l19.trans l20)) hnM (niceX12 hxm _) (by rw [mvM_length, hBl]; exact cb12 (by omega))) ?_
            rintro v21 u21 l21 rfl
            refine G.eqlT 0 0 (by kernel_rfl) rfl ?_
            refine G.eqlT 0 0 (by kernel_rfl) rfl ?_
            refine G.eqlT (lessL (charL B) x) (lessL (charL (mvM m B)) (x + m)) (by kernel_rfl) hsm1.symm ?_
            refine G.eqlT (equalL (charL B) x : Int) (equalL (charL (mvM m B)) (x + m) : Int) (by kernel_rfl) (by rw [hsm2]) ?_
            refine G.call0 _ _ (by kernel_rfl) Tryz.call8 (sane0 (ht.mono ((hlu19.trans l20).trans l21))) ?_
            rintro v22 u22 l22 rfl
            refine G.drop PH.mt (by kernel_rfl) (PH.mt_le _) ?_
            exact G.ret (.bool true) (by kernel_rfl) ⟨rfl, rfl⟩
end Go.Proofs.YtldokelpolbnnaaGreatDoor
end
