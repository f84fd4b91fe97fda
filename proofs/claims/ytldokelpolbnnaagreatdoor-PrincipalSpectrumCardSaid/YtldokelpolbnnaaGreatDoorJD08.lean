/- Joined out of parts of one proof by a program: contracts of the functions that the statement reaches, and the plain facts behind them. -/
import Derived.Test.YtldokelpolbnnaaGreatDoorJD07
set_option linter.unusedVariables false
set_option linter.unusedSimpArgs false
set_option linter.unusedSectionVars false
section
set_option linter.unusedSectionVars false
set_option linter.unusedVariables false
namespace Go.Proofs.YtldokelpolbnnaaGreatDoor
open Go.RowKit
def SV.pub (k g : Nat) : SV → SV
  | .p j off => cond (Nat.beq j k) (.v (.pointer (some ⟨g, off, none⟩))) (.p j off)
  | x => x
def Blk.pub (k g : Nat) (b : Blk) : Blk := ⟨b.t, b.cells.map (SV.pub k g)⟩
def S.pub (s : S) (k g : Nat) : S := { n := s.n, tm := fun d => (s.tm d).pub k g, hp := fun j => cond (Nat.beq j k) none ((s.hp j).map (Blk.pub k g)) }
theorem SV.pub_den (k : Nat) (ρ : Nat → Nat) (x : SV) : (x.pub k (ρ k)).den ρ = x.den ρ := by
  cases x with
  | junk => rfl
  | v x => rfl
  | p j off =>
    cases hb : Nat.beq j k with
    | true => have := Nat.eq_of_beq_eq_true hb; subst this; simp [SV.pub, SV.den]
    | false => simp [SV.pub, hb]
theorem SV.pub_junk {k g : Nat} {x : SV} : x.pub k g ≠ .junk ↔ x ≠ .junk := by
  cases x with
  | junk => simp [SV.pub]
  | v x => simp [SV.pub]
  | p j off => cases hb : Nat.beq j k <;> simp [SV.pub, hb]
theorem SV.pub_p {k g j off : Nat} {x : SV} (h : x.pub k g = .p j off) : x = .p j off ∧ j ≠ k := by
  cases x with
  | junk => cases h
  | v x => cases h
  | p j' off' =>
    cases hb : Nat.beq j' k with
    | true => simp [SV.pub, hb] at h
    | false =>
      simp [SV.pub, hb] at h
      obtain ⟨rfl, rfl⟩ := h
      exact ⟨rfl, fun e => by subst e; simp at hb⟩
theorem pub_hp_same (s : S) (k g : Nat) : (s.pub k g).hp k = none := by simp [S.pub]
theorem pub_hp_ne (s : S) {k g j : Nat} (h : j ≠ k) : (s.pub k g).hp j = (s.hp j).map (Blk.pub k g) := by
  have : Nat.beq j k = false := by rw [← Bool.not_eq_true]; exact fun hh => h (Nat.eq_of_beq_eq_true hh)
  simp [S.pub, this]
section rules
variable {c : Cx} {s : S} {u m : PH} {ρ : Nat → Nat} {a : Act} {w : World}
theorem Rel.pub (h : Rel c s u m ρ a w) {k : Nat} {t : TypeId} {xs : List Value} (hk : s.hp k = some ⟨t, xs.map SV.v⟩) : Rel c (s.pub k (ρ k)) u (m.upd (ρ k) (.cells xs.toArray t (0, 0))) ρ a w := by
  obtain ⟨⟨cs, e1, e2, e3⟩, e4, e5, e6⟩ := h.box k _ hk
  have hcs : cs = xs.toArray := by
    apply Array.ext
    · simpa using e2
    · intro i h1 h2
      have := e3 i (.v xs[i]) (by simp at h2; simp [h2]) (by simp)
      rw [Array.getElem?_eq_getElem h1] at this
      simpa [SV.den] using this
  subst hcs
  have hne : ∀ j, s.hp j ≠ none → j ≠ k → ρ j ≠ ρ k := fun j hj hjk e => hjk (h.inj j k hj (by rw [hk]; simp) e)
  refine ⟨h.sz, fun d hd => ?_, h.df, fun j b hb => ?_, fun i j hi hj he => ?_, ⟨fun d j off hd => ?_, fun i b j off hi hm => ?_⟩, ⟨h.gd.pu, fun g o hg => ?_, fun g => ?_, h.gd.cl⟩, ⟨h.gr.sz, h.gr.old, h.gr.us, fun g hg hm => ?_, h.gr.io⟩⟩
  · have hd' : s.tm d ≠ .junk := SV.pub_junk.1 hd
    show a.tmps[d]? = some (((s.tm d).pub k (ρ k)).den ρ)
    rw [SV.pub_den]; exact h.tm d hd'
  · by_cases hjk : j = k
    · subst hjk; rw [pub_hp_same] at hb; cases hb
    · rw [pub_hp_ne _ hjk] at hb
      obtain ⟨b0, hb0, rfl⟩ := Option.map_eq_some_iff.1 hb
      obtain ⟨⟨cs', f1, f2, f3⟩, f4, f5, f6⟩ := h.box j b0 hb0
      refine ⟨⟨cs', f1, by simp [Blk.pub, f2], fun i x hi hx => ?_⟩, f4, f5, ?_⟩
      · simp only [Blk.pub, List.getElem?_map] at hi
        obtain ⟨y, hy, rfl⟩ := Option.map_eq_some_iff.1 hi
        rw [SV.pub_den]; exact f3 i y hy (SV.pub_junk.1 hx)
      · rw [upd_ne _ _ (hne j (by rw [hb0]; simp) hjk)]; exact f6
  · have h1 : ∀ j, (s.pub k (ρ k)).hp j ≠ none → s.hp j ≠ none := by
      intro j hj hn
      by_cases hjk : j = k
      · subst hjk; exact hj (pub_hp_same _ _ _)
      · rw [pub_hp_ne _ hjk, hn] at hj; exact hj rfl
    exact h.inj i j (h1 i hi) (h1 j hj) he
  · obtain ⟨h1, h2⟩ := SV.pub_p hd
    rw [pub_hp_ne _ h2]
    have := h.lv.1 d j off h1
    intro hn; exact this (by simpa using hn)
  · by_cases hik : i = k
    · subst hik; rw [pub_hp_same] at hi; cases hi
    · rw [pub_hp_ne _ hik] at hi
      obtain ⟨b0, hb0, rfl⟩ := Option.map_eq_some_iff.1 hi
      simp only [Blk.pub, List.mem_map] at hm
      obtain ⟨y, hy, hyp⟩ := hm
      obtain ⟨rfl, h2⟩ := SV.pub_p hyp
      rw [pub_hp_ne _ h2]
      have := h.lv.2 i b0 j off hb0 hy
      intro hn; exact this (by simpa using hn)
  · by_cases hg' : g = ρ k
    · subst hg'; rw [upd_same] at hg; simp only [Option.some.injEq] at hg; subst hg; exact e1
    · rw [upd_ne _ _ hg'] at hg; exact h.gd.pm g o hg
  · by_cases hg' : g = ρ k
    · subst hg'; exact .inl e5
    · rw [upd_ne _ _ hg']; exact h.gd.ap g
  · rw [upd_ne _ _ (by omega)]; exact h.gr.ms g hg hm
end rules
section rules2
variable {P : Program} [Mixed P] {fn : Func} {Post : Spec} {st : List KI × S} {u m : PH}
theorem G.pub (k : Nat) (t : TypeId) (xs : List Value) (h : noReg (ctl P 100 st).1 = true) (hb : (ctl P 100 st).2.hp k = some ⟨t, xs.map SV.v⟩)
    (kk : ∀ g, u g = none → m g = none → G P fn Post ((ctl P 100 st).1, (ctl P 100 st).2.pub k g) u (m.upd g (.cells xs.toArray t (0, 0)))) : G P fn Post st u m := by
  refine ⟨ctl_sound 100 st ?_⟩
  rw [Sym.ofNo h]
  intro c ρ a w hm0 hr
  obtain ⟨_, _, e5, e6⟩ := hr.box k _ hb
  have := (kk (ρ k) e5 e6).out
  rw [Sym.ofNo (by exact h)] at this
  exact this c ρ a w hm0 (hr.pub hb)
end rules2
end Go.Proofs.YtldokelpolbnnaaGreatDoor
end
section
set_option linter.unusedSectionVars false
set_option linter.unusedVariables false
namespace Go.Proofs.YtldokelpolbnnaaGreatDoor
open Go.RowKit
def PH.or (x y : PH) : PH := fun g => match x g with | some o => some o | none => y g
theorem PH.or_l {x y : PH} {g : Nat} {o : Obj} (h : x g = some o) : x.or y g = some o := by simp [PH.or, h]
theorem PH.or_r {x y : PH} {g : Nat} (h : x g = none) : x.or y g = y g := by simp [PH.or, h]
theorem Good.frameM {u mf mc u' mc' : PH} {w w' : World} (h : Good u (mf.or mc) w) (hd : Apart mf mc) (g1 : Good u' mc' w') (g2 : Grown u mc w u' mc' w') : Good u' (mf.or mc') w' ∧ Grown u (mf.or mc) w u' (mf.or mc') w' := by
  have hmf : ∀ g o, mf g = some o → g < w.heap.size ∧ mc g = none ∧ w'.heap[g]? = some o ∧ u' g = none := by
    intro g o hg
    have h1 := h.pm g o (PH.or_l hg)
    have h2 : mc g = none := (hd g).resolve_left (by rw [hg]; simp)
    have hlt := lt_of_at h1
    refine ⟨hlt, h2, by rw [g2.old g hlt h2]; exact h1, ?_⟩
    rw [g2.us g hlt]
    exact (h.ap g).resolve_right (by rw [PH.or_l hg]; simp)
  refine ⟨⟨g1.pu, fun g o hg => ?_, fun g => ?_, g1.cl⟩, ⟨g2.sz, fun g hg hm => ?_, g2.us, fun g hg hm => ?_, g2.io⟩⟩
  · cases hx : mf g with
    | some o' => rw [PH.or_l hx] at hg; cases hg; exact (hmf g _ hx).2.2.1
    | none => rw [PH.or_r hx] at hg; exact g1.pm g o hg
  · cases hx : mf g with
    | some o' => exact .inl (hmf g _ hx).2.2.2
    | none => rw [PH.or_r hx]; exact g1.ap g
  · cases hx : mf g with
    | some o' => rw [PH.or_l hx] at hm; cases hm
    | none => rw [PH.or_r hx] at hm; exact g2.old g hg hm
  · cases hx : mf g with
    | some o' => rw [PH.or_l hx] at hm; cases hm
    | none => rw [PH.or_r hx] at hm ⊢; exact g2.ms g hg hm
section rules
variable {P : Program} [Mixed P] {fn : Func} {Post : Spec} {st : List KI × S} {u m : PH}
def noDr (st : List KI × S) : Bool := match st.1 with | .reg _ _ false _ :: _ => true | _ => false
theorem G.bigN {V : Stop} {K : Value → PH → PH → Prop} (h : stopV P (adv P st) = V) (hV : V ≠ .other) (hdr : noDr (adv P st) = true) (hf : ∀ env op, viewOp P env op = V → freeOp op = false)
    (hr : ∀ env (o : Oper), viewOp P env o.op = V → ∀ w, Good u m w → OpDoes P env o w fun v w' => ∃ u' m', Good u' m' w' ∧ Grown u m w u' m' w' ∧ K v u' m')
    (k : ∀ v u' m', PH.le u u' → K v u' m' → G P fn Post (nx (adv P st) v) u' m') : G P fn Post st u m := by
  refine G.stp ?_
  obtain ⟨id, ops, dr, i, l, kk, s, o, e, ho, hg, hd, hv, hs, hview, hnx⟩ := stopV_spec h hV
  have hdr' : dr = false := by rw [e] at hdr; cases dr <;> simp [noDr] at hdr ⊢
  rw [e]
  refine ⟨?_⟩
  refine Ob.big (K := K) ho hg hd hv hs (hf _ _ hview) (fun v u' m' hK => .inr (.inl hdr')) (fun w hgd => hr _ o hview w hgd) (fun v u' m' h1 h2 => ?_)
  have := (k v u' m' h1 h2).out
  rw [hnx] at this
  exact this
theorem G.callM (f : Nat) (args : List Value) {mf mc : PH} {R : Value → PH → PH → Prop} (h : stopV P (adv P st) = .call f args) (hdr : noDr (adv P st) = true) (hc : ∀ args w, (callFunc f args).run P w = .ok (.enter f args) w) (hm : m = mf.or mc) (hd : Apart mf mc) (c : Contract P f args u mc R)
    (k : ∀ v u' mc', PH.le u u' → R v u' mc' → G P fn Post (nx (adv P st) v) u' (mf.or mc')) : G P fn Post st u m := by
  subst hm
  refine G.bigN (K := fun v u' m' => ∃ mc', m' = mf.or mc' ∧ R v u' mc') h (by simp) hdr view_call_free (fun env o hview w hgd => ?_) (fun v u' m' h1 h2 => ?_)
  · have hgc : Good u mc w := hgd.less (fun g o hg => by
      cases hx : mf g with
      | some o' => have := (hd g).resolve_left (by rw [hx]; simp); rw [this] at hg; cases hg
      | none => rw [PH.or_r hx]; exact hg)
    refine does_call hview hc w _ (Calls.mono (c w hgc) fun e w' he => ?_)
    obtain ⟨v, u', mc', e1, e2, e3, e4⟩ := he
    obtain ⟨g1, g2⟩ := hgd.frameM hd e2 e3
    exact ⟨v, e1, u', mf.or mc', g1, g2, mc', rfl, e4⟩
  · obtain ⟨mc', rfl, hR⟩ := h2
    exact k v u' mc' h1 hR
end rules
end Go.Proofs.YtldokelpolbnnaaGreatDoor
end
section
set_option linter.unusedSectionVars false
set_option linter.unusedVariables false
namespace Go.Proofs.YtldokelpolbnnaaGreatDoor
open Go.RowKit
def RowsAt (u : PH) (es : List Value) (rs : List (List (List UInt8))) : Prop := es.length = rs.length ∧ ∀ (j : Nat) (r : List (List UInt8)), rs[j]? = some r → ∃ a c, es[j]? = some (.slice a r.length c) ∧ StrsP u (.slice a r.length c) r
theorem RowsAt.mono {u u' : PH} {es : List Value} {rs : List (List (List UInt8))} (h : RowsAt u es rs) (hl : PH.le u u') : RowsAt u' es rs :=
  ⟨h.1, fun j r hj => by obtain ⟨a, c, h1, h2⟩ := h.2 j r hj; exact ⟨a, c, h1, ListP.mono h2 hl⟩⟩
def MatP (u : PH) (v : Value) (rs : List (List (List UInt8))) : Prop := ∃ es, ListP u v 1 es ∧ RowsAt u es rs
theorem MatP.mono {u u' : PH} {v : Value} {rs : List (List (List UInt8))} (h : MatP u v rs) (hl : PH.le u u') : MatP u' v rs := by
  obtain ⟨es, h1, h2⟩ := h; exact ⟨es, h1.mono hl, h2.mono hl⟩
theorem MatP.opn {u : PH} {v : Value} {rs : List (List (List UInt8))} (h : MatP u v rs) : ∃ a c, v = .slice a rs.length c := by
  obtain ⟨es, h1, h2⟩ := h
  obtain ⟨a, c, rfl⟩ := h1.opn
  exact ⟨a, c, by rw [h2.1]⟩
theorem MatP.row {u : PH} {a : Option Addr} {n c j : Nat} {rs : List (List (List UInt8))} {r : List (List UInt8)} (h : MatP u (.slice a n c) rs) (hj : rs[j]? = some r) :
    ∃ b off a' c', a = some ⟨b, off, none⟩ ∧ ElP u b (off + j * 1) (.slice a' r.length c') ∧ StrsP u (.slice a' r.length c') r := by
  obtain ⟨es, h1, h2⟩ := h
  obtain ⟨a', c', e1, e2⟩ := h2.2 j r hj
  obtain ⟨b, off, rfl, e3⟩ := h1.at' e1
  exact ⟨b, off, a', c', rfl, e3, e2⟩
theorem indexFuncR {u : PH} {v : Value} {rs : List (List (List UInt8))} {fid : Nat} {cap : List Value} (h : MatP u v rs) (hl : rs.length ≤ 1000000)
    (hcall : ∀ args w, (callFunc fid args).run Tryz.prog w = .ok (.enter fid args) w) (hf : ∀ r ∈ rs, ∀ u' x, PH.le u u' → StrsP u' x r → Fn0 Tryz.prog fid (x :: cap) u' fun v _ => v = .bool false) :
    Fn0 Tryz.prog 150 [v, .func (.func fid) #[] cap.toArray] u fun v' _ => v' = .int .i64 (-1) := by
  obtain ⟨a, c, rfl⟩ := h.opn
  refine Fn0.of Tryz.func150 (by kernel_rfl) (by kernel_rfl) ?_
  refine G.loop (ι := Nat) (fun i => [(0, .v (.slice a rs.length c)), (1, .v (.func (.func fid) #[] cap.toArray)), (7, .v (.int .i64 (rs.length : Int))), (8, .v (.int .i64 (i : Int)))]) (fun _ => [])
    (fun i u' m' => i ≤ rs.length ∧ m' = PH.mt) (fun i => rs.length - i) 0 (by kernel_rfl) (fun _ => by kernel_rfl) ⟨by kernel_rfl, by kernel_rfl, by kernel_rfl⟩ ⟨by omega, rfl⟩ ?_
  rintro J k hJ u' m' hle ⟨hk, rfl⟩
  by_cases hlt : k < rs.length
  · refine G.lssT (k : Int) (rs.length : Int) (by kernel_rfl) (by omega) ?_
    have htk : rs[k]? = some rs[k] := List.getElem?_eq_getElem hlt
    obtain ⟨ba, oa, a', c', rfl, ea, es⟩ := (h.mono hle).row htk
    refine G.addr ba oa rs.length c k 1 (by kernel_rfl) (by omega) ?_
    refine G.loadU none ba (oa + k * 1) (.slice a' rs[k].length c') (by kernel_rfl) (by kernel_rfl) ea ?_
    refine G.call0 fid (.slice a' rs[k].length c' :: cap) (by kernel_rfl) hcall (hf rs[k] (List.getElem_mem hlt) u' _ hle es) ?_
    rintro v1 u1 l1 rfl
    refine G.add (k : Int) 1 ((k + 1 : Nat) : Int) (by kernel_rfl) (by omega) (by omega) (by omega) ?_
    exact G.back (by kernel_rfl) (hJ (k + 1) _ _ _ ⟨by kernel_rfl, by kernel_rfl, by kernel_rfl⟩ (hle.trans l1) ⟨by omega, rfl⟩ (by omega))
  · refine G.lssF (k : Int) (rs.length : Int) (by kernel_rfl) (by omega) ?_
    exact G.ret (.int .i64 (-1)) (by kernel_rfl) ⟨rfl, rfl⟩
theorem containsFuncR {u : PH} {v : Value} {rs : List (List (List UInt8))} {fid : Nat} {cap : List Value} (h : MatP u v rs) (hl : rs.length ≤ 1000000)
    (hcall : ∀ args w, (callFunc fid args).run Tryz.prog w = .ok (.enter fid args) w) (hf : ∀ r ∈ rs, ∀ u' x, PH.le u u' → StrsP u' x r → Fn0 Tryz.prog fid (x :: cap) u' fun v _ => v = .bool false) :
    Fn0 Tryz.prog 116 [v, .func (.func fid) #[] cap.toArray] u fun v' _ => v' = .bool false := by
  obtain ⟨a, c, rfl⟩ := h.opn
  refine Fn0.of Tryz.func116 (by kernel_rfl) (by kernel_rfl) ?_
  refine G.call0 _ _ (by kernel_rfl) Tryz.call150 (indexFuncR h hl hcall hf) ?_
  rintro v1 u1 l1 rfl
  refine G.geqF (-1) 0 (by kernel_rfl) (by omega) ?_
  exact G.ret (.bool false) (by kernel_rfl) ⟨rfl, rfl⟩
end Go.Proofs.YtldokelpolbnnaaGreatDoor
end
section
set_option linter.unusedSectionVars false
set_option linter.unusedVariables false
namespace Go.Proofs.YtldokelpolbnnaaGreatDoor
open Go.RowKit
theorem rows_ok {es : List Value} (h : ∀ e ∈ es, ∃ a n c, e = .slice a n c) : ElsOK 1 es := by
  intro e he
  obtain ⟨a, n, c, rfl⟩ := h e he
  exact ⟨rfl, fun x hx => by simp [Value.cells] at hx; subst hx; rfl⟩
theorem RowsAt.snoc {u : PH} {es : List Value} {rs : List (List (List UInt8))} {a : Option Addr} {c : Nat} {r : List (List UInt8)} (h : RowsAt u es rs) (he : StrsP u (.slice a r.length c) r) : RowsAt u (es ++ [.slice a r.length c]) (rs ++ [r]) := by
  refine ⟨by simp [h.1], fun j r' hj => ?_⟩
  by_cases hjl : j < rs.length
  · rw [List.getElem?_append_left hjl] at hj
    obtain ⟨a', c', h1, h2⟩ := h.2 j r' hj
    exact ⟨a', c', by rw [List.getElem?_append_left (by rw [h.1]; exact hjl)]; exact h1, h2⟩
  · rw [List.getElem?_append_right (by omega)] at hj
    have : j - rs.length = 0 := by
      rcases Nat.eq_zero_or_pos (j - rs.length) with h0 | h0
      · exact h0
      · rw [List.getElem?_eq_none (by simp; omega)] at hj; cases hj
    rw [this] at hj; simp at hj; subst hj
    refine ⟨a, c, ?_, he⟩
    rw [List.getElem?_append_right (by rw [h.1]; omega), h.1, this]; rfl
set_option maxHeartbeats 1000000 in
theorem column0 {u : PH} {v : Value} {ts : List (List UInt8)} (h : StrsP u v ts) (hl : ts.length ≤ 1000000) : Fn0 Tryz.prog 46 [v] u fun v' u' => MatP u' v' (ts.map fun t => [t]) := by
  obtain ⟨a, c, rfl⟩ := ListP.opn h
  rw [strsV_length] at h ⊢
  refine Fn0.of Tryz.func46 (by kernel_rfl) (by kernel_rfl) ?_
  refine G.loop (ι := Nat × List Value × (Option Addr × Nat × Nat)) (fun i => [(3, .v (.slice i.2.2.1 i.2.2.2.1 i.2.2.2.2)), (6, .v (.slice a ts.length c)), (7, .v (.int .i64 (ts.length : Int))), (8, .v (.int .i64 (i.1 : Int)))]) (fun _ => [])
    (fun i u' m' => i.1 ≤ ts.length ∧ RowsAt u' i.2.1 ((ts.take i.1).map fun t => [t]) ∧ ArrAt PH.mt m' (.slice i.2.2.1 i.2.2.2.1 i.2.2.2.2) 27 1 i.2.1) (fun i => ts.length - i.1) (0, [], (none, 0, 0)) (by kernel_rfl) (fun _ => by kernel_rfl) ⟨by kernel_rfl, by kernel_rfl, by kernel_rfl⟩ ⟨by simp, ⟨by simp, fun j q hj => by simp at hj⟩, ArrAt.nil _ _ _⟩ ?_
  rintro J ⟨k, es, ⟨a1, n1, c1⟩⟩ hJ u' m' hle ⟨hk, hF, hA⟩
  simp only at hk hF hA hJ
  have hel := hF.1
  rw [List.length_map, List.length_take] at hel
  by_cases hlt : k < ts.length
  · refine G.lssT (k : Int) (ts.length : Int) (by kernel_rfl) (by omega) ?_
    have htk : ts[k]? = some ts[k] := List.getElem?_eq_getElem hlt
    obtain ⟨ba, oa, rfl, ea⟩ := ListP.at' (ListP.mono h hle) (j := k) (e := .string (mkS ts[k])) (by simp [strsV, htk])
    refine G.addr ba oa ts.length c k 1 (by kernel_rfl) (by omega) ?_
    refine G.loadU none ba (oa + k * 1) (.string (mkS ts[k])) (by kernel_rfl) (by kernel_rfl) ea ?_
    refine G.buildU 34 1 16 (.string (mkS [])) [.string (mkS ts[k])] (by kernel_rfl) (strsV_ok [ts[k]]) rfl (by omega) (by simp) (by simp) ?_
    intro g u2 l2 e2
    have hS : StrsP u2 (.slice (some ⟨g, 0, none⟩) 1 1) [ts[k]] := ⟨_, 1, rfl, Nat.le_refl _, fun j e hj => ⟨g, 0, rfl, e2 j e hj⟩⟩
    refine G.buildU 27 1 24 (.slice none 0 0) [.slice (some ⟨g, 0, none⟩) 1 1] (by kernel_rfl) (rows_ok (by intro e he; simp at he; exact ⟨_, _, _, he⟩)) rfl (by omega) (by simp) (by simp) ?_
    intro g3 u3 l3 e3
    refine G.append 27 1 24 (.slice none 0 0) PH.mt es [.slice (some ⟨g, 0, none⟩) 1 1] (.slice a1 n1 c1) g3 0 1 1 (by kernel_rfl) rfl rfl (by omega) hA e3 (rows_ok (by intro e he; simp at he; exact ⟨_, _, _, he⟩)) rfl (by omega) (by omega) (by omega) ?_
    intro v4 m4 hA4
    obtain ⟨a4, c4, rfl⟩ := hA4.shape
    refine G.add (k : Int) 1 ((k + 1 : Nat) : Int) (by kernel_rfl) (by omega) (by omega) (by omega) ?_
    refine G.back (by kernel_rfl) (hJ (k + 1, es ++ [Value.slice (some ⟨g, 0, none⟩) 1 1], (a4, (es ++ [Value.slice (some ⟨g, 0, none⟩) 1 1]).length, c4)) _ _ _ ⟨by kernel_rfl, by kernel_rfl, by kernel_rfl⟩ ((hle.trans l2).trans l3) ⟨by dsimp only; omega, ?_, hA4⟩ (by dsimp only; omega))
    dsimp only
    rw [List.take_add_one, htk, List.map_append]
    exact (hF.mono (l2.trans l3)).snoc (r := [ts[k]]) (ListP.mono hS l3)
  · have : k = ts.length := by omega
    subst this
    refine G.lssF (ts.length : Int) (ts.length : Int) (by kernel_rfl) (by omega) ?_
    refine G.give PH.mt es _ (by kernel_rfl) hA (fun _ => .inl rfl) ?_
    intro u3 l3 hL
    rw [List.take_length] at hF
    exact G.ret (.slice a1 n1 c1) (by kernel_rfl) ⟨rfl, es, hL, hF.mono l3⟩
end Go.Proofs.YtldokelpolbnnaaGreatDoor
end
section
set_option linter.unusedSectionVars false
set_option linter.unusedVariables false
namespace Go.Proofs.YtldokelpolbnnaaGreatDoor
open Go.RowKit
def matT (A : List (List Rat)) : List (List (List UInt8)) := A.map fun r => r.map ratT
theorem ratT_zero : ratT 0 = [48] := by rw [ratT, if_pos (by rfl)]; exact itoa_zero
theorem ratT_one : ratT 1 = [49] := by rw [ratT, if_pos (by rfl)]; exact itoa_one
theorem rowBad1 {u : PH} {x : Value} {r : List (List UInt8)} (h : StrsP u x r) (hl : r.length ≤ 12) : Fn0 Tryz.prog 117 [x] u fun v _ => v = .bool false := by
  obtain ⟨a, c, rfl⟩ := ListP.opn h
  rw [strsV_length]
  refine Fn0.of Tryz.func117 (by kernel_rfl) (by kernel_rfl) ?_
  refine G.gtrF (r.length : Int) 12 (by kernel_rfl) (by omega) ?_
  exact G.ret (.bool false) (by kernel_rfl) ⟨rfl, rfl⟩
theorem rowBad3 {u : PH} {x : Value} {qs : List Rat} (h : StrsP u x (qs.map ratT)) (hq : ∀ q ∈ qs, Tx q) (hl : qs.length ≤ 1000000) : Fn0 Tryz.prog 119 [x] u fun v _ => v = .bool false := by
  obtain ⟨a, c, rfl⟩ := ListP.opn h
  refine Fn0.of Tryz.func119 (by kernel_rfl) (by kernel_rfl) ?_
  refine G.call0 _ _ (by kernel_rfl) Tryz.call120 (numbers0 h hq hl) ?_
  rintro v1 u1 l1 rfl
  exact G.ret (.bool false) (by kernel_rfl) ⟨rfl, rfl⟩
end Go.Proofs.YtldokelpolbnnaaGreatDoor
end
section
set_option linter.unusedSectionVars false
set_option linter.unusedVariables false
namespace Go.Proofs.YtldokelpolbnnaaGreatDoor
open Go.RowKit
def FnR (P : Program) (f : FuncId) (args : List Value) (u mc : PH) (R : Value → PH → Prop) : Prop := Contract P f args u mc (fun v u' m' => m' = mc ∧ R v u')
theorem mt_or (mc : PH) : PH.mt.or mc = mc := by funext g; rfl
theorem apart_mt (mc : PH) : Apart PH.mt mc := fun _ => .inl rfl
theorem rowBad2 {u mc : PH} {x : Value} {r : List (List UInt8)} {g n : Nat} {t : TypeId} (h : StrsP u x r) (hl : r.length = n) (hn : n ≤ 12) (hg : mc g = some (.cells #[.int .i64 (n : Int)] t (0, 0))) :
    FnR Tryz.prog 118 [x, .pointer (some ⟨g, 0, none⟩)] u mc fun v _ => v = .bool false := by
  obtain ⟨a, c, rfl⟩ := ListP.opn h
  rw [strsV_length]
  refine Contract.of Tryz.func118 (by kernel_rfl) (by kernel_rfl) ?_
  refine G.loadM none g 0 (.int .i64 (n : Int)) (by kernel_rfl) (by kernel_rfl) (fun i y hy => by
    match i, hy with
    | 0, hy => simp [Value.cells] at hy; subst hy; exact ⟨_, _, _, hg, rfl⟩) ?_
  refine G.neqF (r.length : Int) (n : Int) (by kernel_rfl) (by omega) ?_
  exact G.ret (.bool false) (by kernel_rfl) ⟨rfl, rfl⟩
theorem indexFuncM {u mc : PH} {v : Value} {rs : List (List (List UInt8))} {fid : Nat} {cap : List Value} (h : MatP u v rs) (hl : rs.length ≤ 1000000)
    (hcall : ∀ args w, (callFunc fid args).run Tryz.prog w = .ok (.enter fid args) w) (hf : ∀ r ∈ rs, ∀ u' x, PH.le u u' → StrsP u' x r → FnR Tryz.prog fid (x :: cap) u' mc fun v _ => v = .bool false) :
    FnR Tryz.prog 150 [v, .func (.func fid) #[] cap.toArray] u mc fun v' _ => v' = .int .i64 (-1) := by
  obtain ⟨a, c, rfl⟩ := h.opn
  refine Contract.of Tryz.func150 (by kernel_rfl) (by kernel_rfl) ?_
  refine G.loop (ι := Nat) (fun i => [(0, .v (.slice a rs.length c)), (1, .v (.func (.func fid) #[] cap.toArray)), (7, .v (.int .i64 (rs.length : Int))), (8, .v (.int .i64 (i : Int)))]) (fun _ => [])
    (fun i u' m' => i ≤ rs.length ∧ m' = mc) (fun i => rs.length - i) 0 (by kernel_rfl) (fun _ => by kernel_rfl) ⟨by kernel_rfl, by kernel_rfl, by kernel_rfl⟩ ⟨by omega, rfl⟩ ?_
  rintro J k hJ u' m' hle ⟨hk, rfl⟩
  by_cases hlt : k < rs.length
  · refine G.lssT (k : Int) (rs.length : Int) (by kernel_rfl) (by omega) ?_
    have htk : rs[k]? = some rs[k] := List.getElem?_eq_getElem hlt
    obtain ⟨ba, oa, a', c', rfl, ea, es⟩ := (h.mono hle).row htk
    refine G.addr ba oa rs.length c k 1 (by kernel_rfl) (by omega) ?_
    refine G.loadU none ba (oa + k * 1) (.slice a' rs[k].length c') (by kernel_rfl) (by kernel_rfl) ea ?_
    refine G.callM fid (.slice a' rs[k].length c' :: cap) (by kernel_rfl) (by kernel_rfl) hcall (mt_or _).symm (apart_mt _) (hf rs[k] (List.getElem_mem hlt) u' _ hle es) ?_
    rintro v1 u1 mc1 l1 ⟨rfl, rfl⟩
    rw [mt_or]
    refine G.add (k : Int) 1 ((k + 1 : Nat) : Int) (by kernel_rfl) (by omega) (by omega) (by omega) ?_
    exact G.back (by kernel_rfl) (hJ (k + 1) _ _ _ ⟨by kernel_rfl, by kernel_rfl, by kernel_rfl⟩ (hle.trans l1) ⟨by omega, rfl⟩ (by omega))
  · refine G.lssF (k : Int) (rs.length : Int) (by kernel_rfl) (by omega) ?_
    exact G.ret (.int .i64 (-1)) (by kernel_rfl) ⟨rfl, rfl⟩
theorem containsFuncM {u mc : PH} {v : Value} {rs : List (List (List UInt8))} {fid : Nat} {cap : List Value} (h : MatP u v rs) (hl : rs.length ≤ 1000000)
    (hcall : ∀ args w, (callFunc fid args).run Tryz.prog w = .ok (.enter fid args) w) (hf : ∀ r ∈ rs, ∀ u' x, PH.le u u' → StrsP u' x r → FnR Tryz.prog fid (x :: cap) u' mc fun v _ => v = .bool false) :
    FnR Tryz.prog 116 [v, .func (.func fid) #[] cap.toArray] u mc fun v' _ => v' = .bool false := by
  obtain ⟨a, c, rfl⟩ := h.opn
  refine Contract.of Tryz.func116 (by kernel_rfl) (by kernel_rfl) ?_
  refine G.callM _ _ (by kernel_rfl) (by kernel_rfl) Tryz.call150 (mt_or _).symm (apart_mt _) (indexFuncM h hl hcall hf) ?_
  rintro v1 u1 mc1 l1 ⟨rfl, rfl⟩
  rw [mt_or]
  refine G.geqF (-1) 0 (by kernel_rfl) (by omega) ?_
  exact G.ret (.bool false) (by kernel_rfl) ⟨rfl, rfl⟩
end Go.Proofs.YtldokelpolbnnaaGreatDoor
end
section
set_option linter.unusedSectionVars false
set_option linter.unusedVariables false
namespace Go.Proofs.YtldokelpolbnnaaGreatDoor
open Go.RowKit
section rules
variable {P : Program} [Mixed P] {fn : Func} {Post : Spec} {st : List KI × S} {u m : PH}
theorem G.storeM (sz b off : Nat) (t : TypeId) (cs : List Value) (e : Value) (h : stopV P (adv P st) = .store (some sz) (.pointer (some ⟨b, off, none⟩)) e) (hb : m b = some (.cells cs.toArray t (0, 0))) (ho : ∀ x ∈ cs, cellOK x = true) (hl : off + sz ≤ cs.length) (he : e.cells.size = sz) (hc : e.cells.toList.all cellOK = true)
    (k : G P fn Post (nx (adv P st) undef) u (m.upd b (.cells (cs.take off ++ e.cells.toList ++ cs.drop (off + sz)).toArray t (0, 0)))) : G P fn Post st u m := by
  refine G.big (K := fun v' u' m' => u' = u ∧ v' = undef ∧ m' = m.upd b (.cells (cs.take off ++ e.cells.toList ++ cs.drop (off + sz)).toArray t (0, 0))) h (by simp) (fun env op hv => ?_) (.inr fun env op hv => ?_) (fun env o hview w hgd => ?_) (fun v' u' m' _ hk => ?_)
  · obtain ⟨t', X, Y, rfl, _⟩ := view_store hv; rfl
  · obtain ⟨t', X, Y, rfl, _⟩ := view_store hv; rfl
  · obtain ⟨t', X, Y, e1, e2, e3, ht⟩ := view_store hview
    obtain ⟨dst, opp, type, pos, after, guard⟩ := o
    simp only at e1; subst e1
    rw [List.all_eq_true] at hc
    have hgw := hgd.pm b _ hb
    have hst := run_storeCells_at P b off t e.cells.toList 0 cs.toArray w hgw (by simp [he]; omega) (fun x hx => cellOK_one (hc x hx))
    simp only [Nat.add_zero, Array.length_toList, he, List.toList_toArray] at hst
    have hcell : ∀ x ∈ (cs.take off ++ e.cells.toList ++ cs.drop (off + sz)).toArray.toList, cellOK x = true := by
      intro x hx
      simp only [List.toList_toArray, List.mem_append] at hx
      rcases hx with (hx | hx) | hx
      · exact ho x (List.mem_of_mem_take hx)
      · exact hc x hx
      · exact ho x (List.mem_of_mem_drop hx)
    obtain ⟨g1, g2⟩ := hgd.setM hb hcell
    unfold OpDoes
    have hex : (execOp env ⟨dst, .store t' X Y, type, pos, after, guard⟩).run P w = .ok .skip (w.setRow b (cs.take off ++ e.cells.toList ++ cs.drop (off + sz)).toArray) := by
      simp only [execOp, e2, e3]
      simp only [List.append_assoc] at hst ⊢
      simp [Instr.storeAt, Instr.sureAddr, storeVar, run_sizeOf' ht, he, hst]
    rw [hex]
    exact ⟨u, _, g1, g2, rfl, rfl, rfl⟩
  · obtain ⟨rfl, rfl, rfl⟩ := hk
    exact k
end rules
end Go.Proofs.YtldokelpolbnnaaGreatDoor
end
section
set_option linter.unusedSectionVars false
set_option linter.unusedVariables false
namespace Go.Proofs.YtldokelpolbnnaaGreatDoor
section rules
variable {P : Program} [Mixed P] {fn : Func} {Post : Spec} {st : List KI × S} {u m : PH}
theorem Rel.less {c : Cx} {s : S} {ρ : Nat → Nat} {a : Act} {w : World} (h : Rel c s u m ρ a w) {m' : PH} (hl : PH.le m' m) : Rel c s u m' ρ a w := by
  have hn : ∀ g, m g = none → m' g = none := fun g hg => by
    cases e : m' g with
    | none => rfl
    | some o => rw [hl g o e] at hg; cases hg
  refine ⟨h.sz, h.tm, h.df, fun k b hb => ?_, h.inj, h.lv, h.gd.less hl, ⟨h.gr.sz, h.gr.old, h.gr.us, fun g hg hm => hn g (h.gr.ms g hg hm), h.gr.io⟩⟩
  obtain ⟨e1, e2, e3, e4⟩ := h.box k b hb
  exact ⟨e1, e2, e3, hn _ e4⟩
theorem G.drop (m' : PH) (h : noReg (ctl P 100 st).1 = true) (hl : PH.le m' m) (k : G P fn Post (ctl P 100 st) u m') : G P fn Post st u m := by
  refine ⟨ctl_sound 100 st ?_⟩
  have hk := k.out
  rw [Sym.ofNo h] at hk ⊢
  intro c ρ a w hm0 hr
  exact hk c ρ a w hm0 (hr.less hl)
def ResOne (P : Program) (s : S) (m : PH) (r : ResultVar) (v : Value) : Prop :=
  resOne P s r = some v ∨ ∃ a t g off kd, r = .cell a t ∧ s.tm a = .v (.pointer (some ⟨g, off, none⟩)) ∧ ldKind P t = some kd ∧ elOK kd v = true ∧ ElP m g off v
def ResAll (P : Program) (s : S) (m : PH) : List ResultVar → List Value → Prop
  | [], [] => True
  | r :: rs, v :: vs => ResOne P s m r v ∧ ResAll P s m rs vs
  | _, _ => False
theorem run_ResOne {c : Cx} {s : S} {ρ : Nat → Nat} {a : Act} {w : World} (hr : Rel c s u m ρ a w) {r : ResultVar} {x : Value} (h : ResOne P s m r x) : (resSem a.tmps r).run P w = .ok x w := by
  rcases h with h | ⟨p, t, g, off, kd, rfl, h1, h2, h3, h4⟩
  · exact run_resOne hr h
  · have := hr.tm p (by rw [h1]; simp)
    rw [h1] at this
    simp [resSem, this, SV.den, asAddr, run_loadEl h2 h3 h4 hr.gd.pm]
theorem run_ResAll {c : Cx} {s : S} {ρ : Nat → Nat} {a : Act} {w : World} (hr : Rel c s u m ρ a w) {l : List Value} (h : ResAll P s m fn.results.toList l) : (results fn a.tmps).run P w = .ok (tupleOf l) w := by
  have key : ∀ (rs : List ResultVar) (l : List Value), ResAll P s m rs l → (rs.mapM (resSem a.tmps)).run P w = .ok l w := by
    intro rs
    induction rs with
    | nil => intro l h; cases l with | nil => simp | cons => exact h.elim
    | cons r rs ih =>
      intro l h
      cases l with
      | nil => exact h.elim
      | cons x xs =>
        rw [List.mapM_cons]
        simp only [Sem.run_bind, run_ResOne hr h.1, Result.andThen_ok, ih xs h.2, Sem.run_pure]
  have e : results fn a.tmps = (do let vs ← fn.results.mapM (resSem a.tmps); pure (if h : vs.size = 1 then vs[0] else .tuple vs)) := by
    unfold results; rfl
  rw [e, ← Array.toArray_toList (xs := fn.results), List.mapM_toArray]
  simp only [Sem.run_bind, Sem.run_map, key _ l h, Result.andThen_ok, Sem.run_pure]
  congr 1
  match l with
  | [] => rfl
  | [x] => rfl
  | x :: y :: l => rfl
def atRet (st : List KI × S) : Bool := match st.1 with
  | .code .ret :: _ => true
  | [] => true
  | _ => false
theorem G.retM (l : List Value) (m' : PH) (h : atRet (adv P st) = true) (hr : ResAll P (adv P st).2 m fn.results.toList l) (hl : PH.le m' m) (hp : Post.post (tupleOf l) u m') : G P fn Post st u m := by
  refine G.stp ?_
  generalize adv P st = st' at h hr
  obtain ⟨ks, s⟩ := st'
  unfold atRet at h
  simp only at h
  split at h
  · refine ⟨?_⟩
    intro c ρ a w hm0 hrel
    have h2 := hrel.less hl
    exact wp_ret (cont_ret ⟨hrel.df, _, run_ResAll hrel hr, _, _, _, rfl, h2.gd, h2.gr, hp⟩ _)
  · refine ⟨?_⟩
    intro c ρ a w hm0 hrel
    have h2 := hrel.less hl
    exact ⟨hrel.df, _, run_ResAll hrel hr, _, _, _, rfl, h2.gd, h2.gr, hp⟩
  · cases h
theorem PH.mt_le (m : PH) : PH.le PH.mt m := fun _ _ h => by cases h
end rules
end Go.Proofs.YtldokelpolbnnaaGreatDoor
end
section
set_option linter.unusedSectionVars false
set_option linter.unusedVariables false
namespace Go.Proofs.YtldokelpolbnnaaGreatDoor
open Go.RowKit
theorem matT_length (A : List (List Rat)) : (matT A).length = A.length := by simp [matT]
theorem matT_at {A : List (List Rat)} {j : Nat} {r : List Rat} (h : A[j]? = some r) : (matT A)[j]? = some (r.map ratT) := by simp [matT, h]
theorem matT_mem {A : List (List Rat)} {r : List (List UInt8)} (h : r ∈ matT A) : ∃ q ∈ A, r = q.map ratT := by
  simp only [matT, List.mem_map] at h
  obtain ⟨q, h1, rfl⟩ := h
  exact ⟨q, h1, rfl⟩
theorem elP_int (m : PH) (g : Nat) (z : Int) (t : TypeId) : ElP (m.upd g (.cells [Value.int .i64 z].toArray t (0, 0))) g 0 (.int .i64 z) := fun i y hy => by
  match i, hy with
  | 0, hy => simp [Value.cells] at hy; subst hy; exact ⟨_, _, _, upd_same _ _ _, rfl⟩
set_option maxHeartbeats 1000000 in
theorem shape0 {u : PH} {v : Value} {A : List (List Rat)} {k : Nat} (h : MatP u v (matT A)) (hn : A.length ≤ 12) (hk : k ≤ 12) (hr : ∀ r ∈ A, r.length = k) (h0 : A.length = 0 → k = 0) (hT : ∀ r ∈ A, ∀ q ∈ r, Tx q) :
    Fn0 Tryz.prog 74 [v] u fun v' _ => v' = .tuple #[.int .i64 (A.length : Int), .int .i64 (k : Int), .int .i64 0] := by
  obtain ⟨a, c, rfl⟩ := h.opn
  rw [matT_length] at h ⊢
  refine Fn0.of Tryz.func74 (by kernel_rfl) (by kernel_rfl) ?_
  refine G.gtrF (A.length : Int) 12 (by kernel_rfl) (by omega) ?_
  refine G.call0 _ _ (by kernel_rfl) Tryz.call116 (containsFuncR (fid := 117) (cap := []) h (by rw [matT_length]; omega) Tryz.call117 (fun r hr' u' x _ hx => ?_)) ?_
  · obtain ⟨q, hq, rfl⟩ := matT_mem hr'
    exact rowBad1 hx (by rw [List.length_map, hr q hq]; omega)
  rintro v1 u1 l1 rfl
  have hlen : ∀ r ∈ matT A, r.length = k := fun r hr' => by
    obtain ⟨q, hq, rfl⟩ := matT_mem hr'
    rw [List.length_map, hr q hq]
  by_cases hpos : 0 < A.length
  · refine G.gtrT (A.length : Int) 0 (by kernel_rfl) (by omega) ?_
    have htk : A[0]? = some A[0] := List.getElem?_eq_getElem hpos
    obtain ⟨ba, oa, a', c', rfl, ea, es⟩ := (h.mono l1).row (matT_at htk)
    rw [List.length_map, hr _ (List.getElem_mem hpos)] at ea
    refine G.addr ba oa A.length c 0 1 (by kernel_rfl) (by omega) ?_
    refine G.loadU none ba (oa + 0 * 1) (.slice a' k c') (by kernel_rfl) (by kernel_rfl) ea ?_
    refine G.pub 1 3 [.int .i64 (k : Int)] (by kernel_rfl) (by kernel_rfl) ?_
    intro g hu hm
    refine G.callM _ _ (by kernel_rfl) (by kernel_rfl) Tryz.call116 (mt_or _).symm (apart_mt _) (containsFuncM (fid := 118) (cap := [.pointer (some ⟨g, 0, none⟩)]) (h.mono l1) (by rw [matT_length]; omega) Tryz.call118 (fun r hr' u' x _ hx => rowBad2 hx (hlen r hr') hk (upd_same _ _ _))) ?_
    rintro v2 u2 mc2 l2 ⟨rfl, rfl⟩
    rw [mt_or]
    refine G.call0 _ _ (by kernel_rfl) Tryz.call116 (containsFuncR (fid := 119) (cap := []) (h.mono (l1.trans l2)) (by rw [matT_length]; omega) Tryz.call119 (fun r hr' u' x _ hx => ?_)) ?_
    · obtain ⟨q, hq, rfl⟩ := matT_mem hr'
      exact rowBad3 hx (hT q hq) (by rw [hr q hq]; omega)
    rintro v3 u3 l3 rfl
    refine G.loadM none g 0 (.int .i64 (k : Int)) (by kernel_rfl) (by kernel_rfl) (elP_int _ _ _ _) ?_
    refine G.storeM 1 g 0 3 [.int .i64 (k : Int)] (.int .i64 (k : Int)) (by kernel_rfl) (upd_same _ _ _) (fun x hx => by simp at hx; subst hx; rfl) (by simp) rfl rfl ?_
    exact G.retM [.int .i64 (A.length : Int), .int .i64 (k : Int), .int .i64 0] PH.mt (by kernel_rfl) ⟨.inl (by kernel_rfl), .inr ⟨3, 3, g, 0, none, rfl, by kernel_rfl, by kernel_rfl, rfl, elP_int _ _ _ _⟩, .inl (by kernel_rfl), trivial⟩ (PH.mt_le _) ⟨rfl, rfl⟩
  · refine G.gtrF (A.length : Int) 0 (by kernel_rfl) (by omega) ?_
    obtain rfl : k = 0 := h0 (by omega)
    refine G.pub 1 3 [.int .i64 ((0 : Nat) : Int)] (by kernel_rfl) (by kernel_rfl) ?_
    intro g hu hm
    refine G.callM _ _ (by kernel_rfl) (by kernel_rfl) Tryz.call116 (mt_or _).symm (apart_mt _) (containsFuncM (fid := 118) (cap := [.pointer (some ⟨g, 0, none⟩)]) (h.mono l1) (by rw [matT_length]; omega) Tryz.call118 (fun r hr' u' x _ hx => rowBad2 hx (hlen r hr') hk (upd_same _ _ _))) ?_
    rintro v2 u2 mc2 l2 ⟨rfl, rfl⟩
    rw [mt_or]
    refine G.call0 _ _ (by kernel_rfl) Tryz.call116 (containsFuncR (fid := 119) (cap := []) (h.mono (l1.trans l2)) (by rw [matT_length]; omega) Tryz.call119 (fun r hr' u' x _ hx => ?_)) ?_
    · obtain ⟨q, hq, rfl⟩ := matT_mem hr'
      exact rowBad3 hx (hT q hq) (by rw [hr q hq]; omega)
    rintro v3 u3 l3 rfl
    refine G.loadM none g 0 (.int .i64 ((0 : Nat) : Int)) (by kernel_rfl) (by kernel_rfl) (elP_int _ _ _ _) ?_
    refine G.storeM 1 g 0 3 [.int .i64 ((0 : Nat) : Int)] (.int .i64 ((0 : Nat) : Int)) (by kernel_rfl) (upd_same _ _ _) (fun x hx => by simp at hx; subst hx; rfl) (by simp) rfl rfl ?_
    exact G.retM [.int .i64 (A.length : Int), .int .i64 ((0 : Nat) : Int), .int .i64 0] PH.mt (by kernel_rfl) ⟨.inl (by kernel_rfl), .inr ⟨3, 3, g, 0, none, rfl, by kernel_rfl, by kernel_rfl, rfl, elP_int _ _ _ _⟩, .inl (by kernel_rfl), trivial⟩ (PH.mt_le _) ⟨rfl, rfl⟩
end Go.Proofs.YtldokelpolbnnaaGreatDoor
end
section
set_option linter.unusedSectionVars false
set_option linter.unusedVariables false
namespace Go.Proofs.YtldokelpolbnnaaGreatDoor
open Go.RowKit
theorem MatP.cell {u : PH} {a : Option Addr} {n c i j : Nat} {A : List (List Rat)} (h : MatP u (.slice a n c) (matT A)) (hi : i < A.length) (hj : j < A[i].length) :
    ∃ b off b' off' c', a = some ⟨b, off, none⟩ ∧ ElP u b (off + i * 1) (.slice (some ⟨b', off', none⟩) A[i].length c') ∧ ElP u b' (off' + j * 1) (.string (mkS (ratT A[i][j]))) := by
  obtain ⟨b, off, a', c', rfl, e1, e2⟩ := h.row (matT_at (List.getElem?_eq_getElem hi))
  rw [List.length_map] at e1 e2
  obtain ⟨b', off', rfl, e3⟩ := ListP.at' e2 (j := j) (e := .string (mkS (ratT A[i][j]))) (by simp [strsV, List.getElem?_eq_getElem hj])
  exact ⟨b, off, b', off', c', rfl, e1, e3⟩
structure Sq (A : List (List Rat)) : Prop where
  le : A.length ≤ 12
  row : ∀ r ∈ A, r.length = A.length
  tx : ∀ r ∈ A, ∀ q ∈ r, Tx q
theorem Sq.len {A : List (List Rat)} (h : Sq A) {i : Nat} (hi : i < A.length) : A[i].length = A.length := h.row _ (List.getElem_mem hi)
theorem Sq.tx' {A : List (List Rat)} (h : Sq A) {i j : Nat} (hi : i < A.length) (hj : j < A[i].length) : Tx A[i][j] := h.tx _ (List.getElem_mem hi) _ (List.getElem_mem hj)
def SymM (A : List (List Rat)) : Prop := ∀ (i k : Nat) (hi : i < A.length) (hk : k < A.length) (h1 : k < A[i].length) (h2 : i < A[k].length), A[i][k] = A[k][i]
theorem shapeSq {u : PH} {v : Value} {A : List (List Rat)} (h : MatP u v (matT A)) (hs : Sq A) : Fn0 Tryz.prog 74 [v] u fun v' _ => v' = .tuple #[.int .i64 (A.length : Int), .int .i64 (A.length : Int), .int .i64 0] :=
  shape0 h hs.le hs.le hs.row (fun h => h) hs.tx
set_option maxHeartbeats 1000000 in
theorem symmetric0 {u : PH} {v : Value} {A : List (List Rat)} (h : MatP u v (matT A)) (hs : Sq A) (hy : SymM A) : Fn0 Tryz.prog 80 [v] u fun v' _ => v' = .bool true := by
  obtain ⟨a, c, rfl⟩ := h.opn
  rw [matT_length] at h ⊢
  have hle := hs.le
  refine Fn0.of Tryz.func80 (by kernel_rfl) (by kernel_rfl) ?_
  refine G.call0 _ _ (by kernel_rfl) Tryz.call74 (shapeSq h hs) ?_
  rintro v1 u1 l1 rfl
  refine G.neqF 0 0 (by kernel_rfl) (by omega) ?_
  refine G.neqF (A.length : Int) (A.length : Int) (by kernel_rfl) (by omega) ?_
  refine G.loop (ι := Nat) (fun i => [(0, .v (.slice a A.length c)), (22, .v (.int .i64 (A.length : Int))), (23, .v (.int .i64 (i : Int)))]) (fun _ => [])
    (fun i u' m' => i ≤ A.length ∧ m' = PH.mt) (fun i => A.length - i) 0 (by kernel_rfl) (fun _ => by kernel_rfl) ⟨by kernel_rfl, by kernel_rfl, by kernel_rfl⟩ ⟨by omega, rfl⟩ ?_
  rintro J i hJ u2 m2 l2 ⟨hi, rfl⟩
  by_cases hlt : i < A.length
  · refine G.lssT (i : Int) (A.length : Int) (by kernel_rfl) (by omega) ?_
    refine G.loop (ι := Nat) (fun k => [(0, .v (.slice a A.length c)), (22, .v (.int .i64 (A.length : Int))), (23, .v (.int .i64 (i : Int))), (6, .v (.int .i64 (i : Int))), (26, .v (.int .i64 (i : Int))), (27, .v (.int .i64 (k : Int)))]) (fun _ => [])
      (fun k u' m' => k ≤ i ∧ m' = PH.mt) (fun k => i - k) 0 (by kernel_rfl) (fun _ => by kernel_rfl) ⟨by kernel_rfl, by kernel_rfl, by kernel_rfl⟩ ⟨by omega, rfl⟩ ?_
    rintro J2 k hJ2 u3 m3 l3 ⟨hk, rfl⟩
    by_cases hlt2 : k < i
    · refine G.lssT (k : Int) (i : Int) (by kernel_rfl) (by omega) ?_
      have hkl : k < A.length := by omega
      have hki : k < A[i].length := by rw [hs.len hlt]; omega
      have hik : i < A[k].length := by rw [hs.len hkl]; omega
      have hM := h.mono (l1.trans (l2.trans l3))
      obtain ⟨b1, o1, b2, o2, c2, rfl, e1, e2⟩ := hM.cell hlt hki
      refine G.addr b1 o1 A.length c i 1 (by kernel_rfl) (by omega) ?_
      refine G.loadU none b1 (o1 + i * 1) _ (by kernel_rfl) (by kernel_rfl) e1 ?_
      refine G.addr b2 o2 A[i].length c2 k 1 (by kernel_rfl) hki ?_
      refine G.loadU none b2 (o2 + k * 1) _ (by kernel_rfl) (by kernel_rfl) e2 ?_
      obtain ⟨b3, o3, b4, o4, c4, e0, e3, e4⟩ := hM.cell hkl hik
      cases e0
      refine G.addr b1 o1 A.length c k 1 (by kernel_rfl) (by omega) ?_
      refine G.loadU none b1 (o1 + k * 1) _ (by kernel_rfl) (by kernel_rfl) e3 ?_
      refine G.addr b4 o4 A[k].length c4 i 1 (by kernel_rfl) hik ?_
      refine G.loadU none b4 (o4 + i * 1) _ (by kernel_rfl) (by kernel_rfl) e4 ?_
      refine G.neSF (ratT A[i][k]) (ratT A[k][i]) (by kernel_rfl) (by rw [hy i k hlt hkl hki hik]) ?_
      refine G.add (k : Int) 1 ((k + 1 : Nat) : Int) (by kernel_rfl) (by omega) (by omega) (by omega) ?_
      exact G.back (by kernel_rfl) (hJ2 (k + 1) _ _ _ ⟨by kernel_rfl, by kernel_rfl, by kernel_rfl⟩ l3 ⟨by omega, rfl⟩ (by omega))
    · refine G.lssF (k : Int) (i : Int) (by kernel_rfl) (by omega) ?_
      refine G.add (i : Int) 1 ((i + 1 : Nat) : Int) (by kernel_rfl) (by omega) (by omega) (by omega) ?_
      exact G.back (by kernel_rfl) (hJ (i + 1) _ _ _ ⟨by kernel_rfl, by kernel_rfl, by kernel_rfl⟩ (l2.trans l3) ⟨by omega, rfl⟩ (by omega))
  · refine G.lssF (i : Int) (A.length : Int) (by kernel_rfl) (by omega) ?_
    exact G.ret (.bool true) (by kernel_rfl) ⟨rfl, rfl⟩
theorem begin0 {u : PH} {v : Value} {A : List (List Rat)} (h : MatP u v (matT A)) (hs : Sq A) (hy : SymM A) : Fn0 Tryz.prog 42 [v] u fun v' _ => v' = .int .i64 0 := by
  obtain ⟨a, c, rfl⟩ := h.opn
  rw [matT_length] at h ⊢
  refine Fn0.of Tryz.func42 (by kernel_rfl) (by kernel_rfl) ?_
  refine G.call0 _ _ (by kernel_rfl) Tryz.call74 (shapeSq h hs) ?_
  rintro v1 u1 l1 rfl
  refine G.eqlT 0 0 (by kernel_rfl) (by omega) ?_
  refine G.call0 _ _ (by kernel_rfl) Tryz.call80 (symmetric0 (h.mono l1) hs hy) ?_
  rintro v2 u2 l2 rfl
  exact G.ret (.int .i64 0) (by kernel_rfl) ⟨rfl, rfl⟩
end Go.Proofs.YtldokelpolbnnaaGreatDoor
end
section
set_option linter.unusedSectionVars false
set_option linter.unusedVariables false
namespace Go.Proofs.YtldokelpolbnnaaGreatDoor
open Go.RowKit
section lists
variable {α : Type} {R : PH → Value → α → Prop} {u u' : PH}
def AtP (R : PH → Value → α → Prop) (u : PH) (es : List Value) (xs : List α) : Prop := es.length = xs.length ∧ ∀ (j : Nat) (x : α), xs[j]? = some x → ∃ e, es[j]? = some e ∧ R u e x
theorem AtP.nil : AtP R u [] [] := ⟨rfl, fun j x h => by simp at h⟩
theorem AtP.mono {es : List Value} {xs : List α} (hR : ∀ e x, R u e x → R u' e x) (h : AtP R u es xs) : AtP R u' es xs :=
  ⟨h.1, fun j x hj => by obtain ⟨e, h1, h2⟩ := h.2 j x hj; exact ⟨e, h1, hR e x h2⟩⟩
theorem AtP.snoc {es : List Value} {xs : List α} {e : Value} {x : α} (h : AtP R u es xs) (he : R u e x) : AtP R u (es ++ [e]) (xs ++ [x]) := by
  refine ⟨by simp [h.1], fun j r hj => ?_⟩
  by_cases hjl : j < xs.length
  · rw [List.getElem?_append_left hjl] at hj
    obtain ⟨e', h1, h2⟩ := h.2 j r hj
    exact ⟨e', by rw [List.getElem?_append_left (by rw [h.1]; exact hjl)]; exact h1, h2⟩
  · rw [List.getElem?_append_right (by omega)] at hj
    have : j - xs.length = 0 := by
      rcases Nat.eq_zero_or_pos (j - xs.length) with h0 | h0
      · exact h0
      · rw [List.getElem?_eq_none (by simp; omega)] at hj; cases hj
    rw [this] at hj; simp at hj; subst hj
    refine ⟨e, ?_, he⟩
    rw [List.getElem?_append_right (by rw [h.1]; omega), h.1, this]; rfl
theorem AtP.set {es : List Value} {xs : List α} {e : Value} {x : α} (h : AtP R u es xs) (k : Nat) (he : R u e x) : AtP R u (es.set k e) (xs.set k x) := by
  refine ⟨by simp [h.1], fun j r hj => ?_⟩
  rw [List.getElem?_set] at hj ⊢
  split at hj
  · rename_i e'
    subst e'
    split at hj
    · rename_i hlt
      simp only [Option.some.injEq] at hj; subst hj
      exact ⟨e, by rw [if_pos rfl, if_pos (by rw [h.1]; exact hlt)], he⟩
    · cases hj
  · rename_i e'
    rw [if_neg e']
    exact h.2 j r hj
def LP (R : PH → Value → α → Prop) (sz : Nat) (u : PH) (v : Value) (xs : List α) : Prop := ∃ es, ListP u v sz es ∧ AtP R u es xs
theorem LP.mono {sz : Nat} {v : Value} {xs : List α} (hR : ∀ e x, R u e x → R u' e x) (h : LP R sz u v xs) (hl : PH.le u u') : LP R sz u' v xs := by
  obtain ⟨es, h1, h2⟩ := h; exact ⟨es, h1.mono hl, h2.mono hR⟩
theorem LP.opn {sz : Nat} {v : Value} {xs : List α} (h : LP R sz u v xs) : ∃ a c, v = .slice a xs.length c := by
  obtain ⟨es, h1, h2⟩ := h
  obtain ⟨a, c, rfl⟩ := h1.opn
  exact ⟨a, c, by rw [h2.1]⟩
theorem LP.at {sz : Nat} {a : Option Addr} {n c : Nat} {xs : List α} (h : LP R sz u (.slice a n c) xs) {j : Nat} {x : α} (hj : xs[j]? = some x) : ∃ b off e, a = some ⟨b, off, none⟩ ∧ ElP u b (off + j * sz) e ∧ R u e x := by
  obtain ⟨es, h1, h2⟩ := h
  obtain ⟨e, e1, e2⟩ := h2.2 j x hj
  obtain ⟨b, off, rfl, e3⟩ := h1.at' e1
  exact ⟨b, off, e, rfl, e3, e2⟩
end lists
def NumsP (u : PH) (v : Value) (zs : List Int) : Prop := LP NumP 2 u v zs
def NMatP (u : PH) (v : Value) (zs : List (List Int)) : Prop := LP NumsP 1 u v zs
def FMatP (u : PH) (v : Value) (qs : List (List Rat)) : Prop := LP FracsP 1 u v qs
theorem NumsP.mono {u u' : PH} {v : Value} {zs : List Int} (h : NumsP u v zs) (hl : PH.le u u') : NumsP u' v zs := LP.mono (fun _ _ h => h.mono hl) h hl
theorem NMatP.mono {u u' : PH} {v : Value} {zs : List (List Int)} (h : NMatP u v zs) (hl : PH.le u u') : NMatP u' v zs := LP.mono (fun _ _ h => h.mono hl) h hl
theorem FMatP.mono {u u' : PH} {v : Value} {zs : List (List Rat)} (h : FMatP u v zs) (hl : PH.le u u') : FMatP u' v zs := LP.mono (fun _ _ h => h.mono hl) h hl
theorem FracsP.lp {u : PH} {v : Value} {qs : List Rat} (h : FracsP u v qs) : LP FracP 4 u v qs := h
theorem slice_ok (a : Option Addr) (n c : Nat) : ElsOK 1 [.slice a n c] := rows_ok (by intro e he; simp at he; exact ⟨_, _, _, he⟩)
theorem ArrAt.some' {m0 m : PH} {t : TypeId} {sz : Nat} {es : List Value} {a : Addr} {n c : Nat} (ha : ArrAt m0 m (.slice (some a) n c) t sz es) : ∃ g, a = ⟨g, 0, none⟩ ∧ m0 g = none := by
  rcases ha.2 with ⟨h, _, _⟩ | ⟨g, cap, rest, h0, _, h, _⟩
  · simp at h
  · simp only [Value.slice.injEq, Option.some.injEq] at h
    exact ⟨g, h.1, h0⟩
theorem set_fill {α : Type} {l : List α} {j n : Nat} {e z : α} (hl : l.length = j) (hj : j < n) : (l ++ List.replicate (n - j) z).set j e = l ++ [e] ++ List.replicate (n - (j + 1)) z := by
  subst hl
  rw [show n - l.length = (n - (l.length + 1)) + 1 by omega, List.replicate_succ]
  rw [List.set_append_right _ _ (Nat.le_refl _)]
  simp
theorem lcm_eq (d e : Nat) : ((d : Int) / ((Nat.gcd (d : Int).natAbs (e : Int).natAbs : Nat) : Int) * (e : Int)) = ((Nat.lcm d e : Nat) : Int) := by
  rw [Int.natAbs_natCast, Int.natAbs_natCast, Nat.lcm, ← Nat.div_mul_right_comm (Nat.gcd_dvd_left d e)]
  push_cast
  rfl
def TabP (u : PH) (v : Value) (D : Nat) (cs : List (List Int)) : Prop := ∃ b a n c a' n' c', v = .agg #[.bool b, .slice a n c, .slice a' n' c'] ∧ NumP u (.agg #[.bool b, .slice a n c]) (D : Int) ∧ NMatP u (.slice a' n' c') cs
def cellsOf (D : Nat) (r : List Rat) : List Int := r.map fun q => q.num * ((D / q.den : Nat) : Int)
structure DI where
  b : Bool
  a : Option Addr
  n : Nat
  c : Nat
  D : Nat
def denV (d : DI) : Value := .agg #[.bool d.b, .slice d.a d.n d.c]
def DenOK (u : PH) (d : DI) (L : Nat) : Prop := NumP u (denV d) (d.D : Int) ∧ 0 < d.D ∧ d.D ∣ L
theorem DenOK.mono {u u' : PH} {d : DI} {L : Nat} (h : DenOK u d L) (hl : PH.le u u') : DenOK u' d L := ⟨h.1.mono hl, h.2⟩
set_option maxHeartbeats 4000000 in
theorem elimOf0 {u : PH} {v : Value} {A : List (List Rat)} {L : Nat} (h : MatP u v (matT A)) (hT : ∀ r ∈ A, ∀ q ∈ r, Tx q) (hl : A.length ≤ 1000000) (hl2 : ∀ r ∈ A, r.length ≤ 1000000) (hL : ∀ r ∈ A, ∀ q ∈ r, q.den ∣ L) (hL0 : 0 < L) (hLs : nl L ≤ 1000000000) :
    Fn0 Tryz.prog 88 [v] u fun v' u' => ∃ D, 0 < D ∧ D ∣ L ∧ (∀ r ∈ A, ∀ q ∈ r, q.den ∣ D) ∧ TabP u' v' D (A.map (cellsOf D)) := by
  obtain ⟨a, c, rfl⟩ := h.opn
  rw [matT_length] at h ⊢
  have hDs : ∀ D : Nat, D ∣ L → nl (D : Int).natAbs ≤ 1000000000 := fun D hD => Nat.le_trans (nl_mono (Nat.le_of_dvd hL0 hD)) hLs
  refine Fn0.of Tryz.func88 (by kernel_rfl) (by kernel_rfl) ?_
  refine G.call0 _ _ (by kernel_rfl) Tryz.call87 (numOf0 (z := 1) (by omega) (by omega)) ?_
  intro v1 u1 l1 k1
  obtain ⟨b1, a1, n1, c1, rfl⟩ := k1.opn
  refine G.loop (ι := Nat × List Value × (Option Addr × Nat × Nat) × DI)
    (fun i => [(2, .p 0 0), (3, .p 1002 0), (4, .v (.slice i.2.2.1.1 i.2.2.1.2.1 i.2.2.1.2.2)), (19, .v (.slice a A.length c)), (20, .v (.int .i64 (A.length : Int))), (21, .v (.int .i64 (i.1 : Int)))])
    (fun i => [(0, ⟨134, [.v (.bool false), .v (.slice none 0 0), .v (.slice none 0 0)]⟩), (1002, ⟨134, [.v (.bool i.2.2.2.b), .v (.slice i.2.2.2.a i.2.2.2.n i.2.2.2.c), .v (.slice none 0 0)]⟩)])
    (fun i u' m' => i.1 ≤ A.length ∧ AtP FracsP u' i.2.1 (A.take i.1) ∧ ArrAt PH.mt m' (.slice i.2.2.1.1 i.2.2.1.2.1 i.2.2.1.2.2) 81 1 i.2.1 ∧ DenOK u' i.2.2.2 L ∧ ∀ r ∈ A.take i.1, ∀ q ∈ r, q.den ∣ i.2.2.2.D)
    (fun i => A.length - i.1) (0, [], (none, 0, 0), ⟨b1, a1, n1, c1, 1⟩) (by kernel_rfl) (fun _ => by kernel_rfl) ⟨by kernel_rfl, by kernel_rfl, by kernel_rfl⟩
    ⟨Nat.zero_le _, AtP.nil, ArrAt.nil _ _ _, ⟨k1, Nat.one_pos, Nat.one_dvd _⟩, fun r hr => by simp at hr⟩ ?_
  rintro J ⟨k, vals, ⟨a2, n2, c2⟩, ⟨db, da, dn, dc, D⟩⟩ hJ u2 m2 l2 ⟨hk, hF, hA, hD, hdv⟩
  simp only at hk hF hA hD hdv hJ
  have hel := hF.1
  rw [List.length_take] at hel
  by_cases hlt : k < A.length
  · refine G.lssT (k : Int) (A.length : Int) (by kernel_rfl) (by omega) ?_
    have htk : A[k]? = some A[k] := List.getElem?_eq_getElem hlt
    have hmem := List.getElem_mem hlt
    obtain ⟨ba, oa, a3, c3, rfl, e3, s3⟩ := (h.mono (l1.trans l2)).row (matT_at htk)
    rw [List.length_map] at e3 s3
    refine G.addr ba oa A.length c k 1 (by kernel_rfl) (by omega) ?_
    refine G.loadU none ba (oa + k * 1) _ (by kernel_rfl) (by kernel_rfl) e3 ?_
    refine G.call0 _ _ (by kernel_rfl) Tryz.call91 (fracList0 s3 (hT _ hmem) (hl2 _ hmem)) ?_
    intro v4 u4 l4 k4
    obtain ⟨a4, c4, rfl⟩ := k4.lp.opn
    refine G.loop (ι := Nat × DI)
      (fun i => [(2, .p 0 0), (3, .p 1002 0), (4, .v (.slice a2 n2 c2)), (19, .v (.slice (some ⟨ba, oa, none⟩) A.length c)), (20, .v (.int .i64 (A.length : Int))), (21, .v (.int .i64 (k : Int))), (7, .v (.slice a4 A[k].length c4)), (27, .v (.slice a4 A[k].length c4)), (28, .v (.int .i64 (A[k].length : Int))), (29, .v (.int .i64 (i.1 : Int)))])
      (fun i => [(0, ⟨134, [.v (.bool false), .v (.slice none 0 0), .v (.slice none 0 0)]⟩), (1002, ⟨134, [.v (.bool i.2.b), .v (.slice i.2.a i.2.n i.2.c), .v (.slice none 0 0)]⟩)])
      (fun i u' m' => i.1 ≤ A[k].length ∧ m' = m2 ∧ DenOK u' i.2 L ∧ (∀ r ∈ A.take k, ∀ q ∈ r, q.den ∣ i.2.D) ∧ ∀ q ∈ A[k].take i.1, q.den ∣ i.2.D)
      (fun i => A[k].length - i.1) (0, ⟨db, da, dn, dc, D⟩) (by kernel_rfl) (fun _ => by kernel_rfl) ⟨by kernel_rfl, by kernel_rfl, by kernel_rfl⟩
      ⟨Nat.zero_le _, rfl, hD.mono l4, hdv, fun q hq => by simp at hq⟩ ?_
    rintro J2 ⟨j, ⟨eb, ea, en, ec, E⟩⟩ hJ2 u5 m5 l5 ⟨hj, rfl, hE, hev, hrv⟩
    simp only at hj hE hev hrv hJ2
    by_cases hlt2 : j < A[k].length
    · refine G.lssT (j : Int) (A[k].length : Int) (by kernel_rfl) (by omega) ?_
      have hqj : A[k][j]? = some A[k][j] := List.getElem?_eq_getElem hlt2
      have hqm := List.getElem_mem hlt2
      have htx := hT _ hmem _ hqm
      obtain ⟨b6, o6, e6, rfl, h6, f6⟩ := (k4.mono l5).lp.at hqj
      obtain ⟨x1, x2, x3, x4, x5, x6, x7, x8, rfl⟩ := f6.opn
      refine G.addr b6 o6 A[k].length c4 j 4 (by kernel_rfl) hlt2 ?_
      refine G.loadU (some 4) b6 (o6 + j * 4) _ (by kernel_rfl) (by kernel_rfl) h6 ?_
      refine G.call0 _ _ (by kernel_rfl) Tryz.call135 (fracDen0 f6) ?_
      intro v7 u7 l7 k7
      obtain ⟨b7, a7, n7, c7, rfl⟩ := k7.opn
      refine G.call0 _ _ (by kernel_rfl) Tryz.call134 (numLcm0 ((hE.mono l7).1) k7 (Nat.le_trans (hDs _ hE.2.2) (by omega)) (Nat.le_trans (nl_of_dig htx.den) (by omega)) (by have := hE.2.1; dsimp only at this ⊢; omega)) ?_
      intro v8 u8 l8 k8
      rw [lcm_eq] at k8
      obtain ⟨b8, a8, n8, c8, rfl⟩ := k8.opn
      refine G.add (j : Int) 1 ((j + 1 : Nat) : Int) (by kernel_rfl) (by omega) (by omega) (by have := hl2 _ hmem; omega) ?_
      refine G.back (by kernel_rfl) (hJ2 (j + 1, ⟨b8, a8, n8, c8, Nat.lcm E A[k][j].den⟩) _ _ _ ⟨by kernel_rfl, by kernel_rfl, by kernel_rfl⟩ ((l5.trans l7).trans l8) ⟨by dsimp only; omega, rfl, ⟨k8, ?_, ?_⟩, ?_, ?_⟩ (by dsimp only; omega))
      · have := hE.2.1
        simp only at this ⊢
        exact Nat.lcm_pos this (A[k][j]).den_pos
      · exact Nat.lcm_dvd hE.2.2 (hL _ hmem _ hqm)
      · exact fun r hr q hq => Nat.dvd_trans (hev r hr q hq) (Nat.dvd_lcm_left _ _)
      · intro q hq
        dsimp only at hq ⊢
        rw [List.take_add_one, hqj] at hq
        rcases List.mem_append.1 hq with hq | hq
        · exact Nat.dvd_trans (hrv q hq) (Nat.dvd_lcm_left _ _)
        · simp at hq; subst hq; exact Nat.dvd_lcm_right _ _
    · have : j = A[k].length := by omega
      subst this
      rw [List.take_length] at hrv
      refine G.lssF (A[k].length : Int) (A[k].length : Int) (by kernel_rfl) (by omega) ?_
      refine G.buildU 81 1 24 (.slice none 0 0) [.slice a4 A[k].length c4] (by kernel_rfl) (slice_ok _ _ _) rfl (by omega) (by simp) (by simp) ?_
      intro g6 u6 l6 e6
      refine G.append 81 1 24 (.slice none 0 0) PH.mt vals [.slice a4 A[k].length c4] (.slice a2 n2 c2) g6 0 1 1 (by kernel_rfl) rfl rfl (by omega) hA e6 (slice_ok _ _ _) rfl (by omega) (by omega) (by omega) ?_
      intro v7 m7 hA7
      obtain ⟨a7, c7, rfl⟩ := hA7.shape
      refine G.add (k : Int) 1 ((k + 1 : Nat) : Int) (by kernel_rfl) (by omega) (by omega) (by omega) ?_
      refine G.back (by kernel_rfl) (hJ (k + 1, vals ++ [Value.slice a4 A[k].length c4], (a7, (vals ++ [Value.slice a4 A[k].length c4]).length, c7), ⟨eb, ea, en, ec, E⟩) _ _ _ ⟨by kernel_rfl, by kernel_rfl, by kernel_rfl⟩ (((l2.trans l4).trans l5).trans l6) ⟨by dsimp only; omega, ?_, hA7, hE.mono l6, ?_⟩ (by dsimp only; omega))
      · dsimp only
        rw [List.take_add_one, htk]
        exact (hF.mono (fun _ _ h => h.mono ((l4.trans l5).trans l6))).snoc (k4.mono (l5.trans l6))
      · intro r hr
        dsimp only at hr ⊢
        rw [List.take_add_one, htk] at hr
        rcases List.mem_append.1 hr with hr | hr
        · exact hev r hr
        · simp at hr; subst hr; exact hrv
  · have : k = A.length := by omega
    subst this
    rw [List.take_length] at hF hdv
    refine G.lssF (A.length : Int) (A.length : Int) (by kernel_rfl) (by omega) ?_
    refine G.give PH.mt vals _ (by kernel_rfl) hA (fun _ => .inl rfl) ?_
    intro u3 l3 hL3
    have hlv : vals.length = A.length := by rw [hF.1]
    obtain ⟨_, _, e0⟩ := hL3.opn
    simp only [Value.slice.injEq] at e0
    obtain ⟨rfl, rfl, rfl⟩ := e0
    rw [hlv] at hL3 ⊢
    have hFM : FMatP u3 (.slice a2 A.length c2) A := ⟨vals, hL3, hF.mono (fun _ _ h => h.mono l3)⟩
    refine G.loop (ι := Nat × List Value × (Option Addr × Nat × Nat))
      (fun i => [(2, .p 0 0), (3, .p 1002 0), (45, .v (.slice a2 A.length c2)), (46, .v (.int .i64 (A.length : Int))), (47, .v (.int .i64 (i.1 : Int)))])
      (fun i => [(0, ⟨134, [.v (.bool false), .v (.slice none 0 0), .v (.slice none 0 0)]⟩), (1002, ⟨134, [.v (.bool db), .v (.slice da dn dc), .v (.slice i.2.2.1 i.2.2.2.1 i.2.2.2.2)]⟩)])
      (fun i u' m' => i.1 ≤ A.length ∧ AtP NumsP u' i.2.1 ((A.take i.1).map (cellsOf D)) ∧ ArrAt PH.mt m' (.slice i.2.2.1 i.2.2.2.1 i.2.2.2.2) 170 1 i.2.1)
      (fun i => A.length - i.1) (0, [], (none, 0, 0)) (by kernel_rfl) (fun _ => by kernel_rfl) ⟨by kernel_rfl, by kernel_rfl, by kernel_rfl⟩
      ⟨Nat.zero_le _, AtP.nil, ArrAt.nil _ _ _⟩ ?_
    rintro J2 ⟨k, cv, ⟨a5, n5, c5⟩⟩ hJ2 u5 m5 l5 ⟨hk5, hN, hA5⟩
    simp only at hk5 hN hA5 hJ2
    have hel5 := hN.1
    rw [List.length_map, List.length_take] at hel5
    by_cases hlt : k < A.length
    · refine G.lssT (k : Int) (A.length : Int) (by kernel_rfl) (by omega) ?_
      have htk : A[k]? = some A[k] := List.getElem?_eq_getElem hlt
      have hmem := List.getElem_mem hlt
      have hrl := hl2 _ hmem
      obtain ⟨b6, o6, e6, rfl, h6, f6⟩ := LP.at (hFM.mono l5) htk
      obtain ⟨a7, c7, rfl⟩ := f6.lp.opn
      refine G.addr b6 o6 A.length c2 k 1 (by kernel_rfl) (by omega) ?_
      refine G.loadU none b6 (o6 + k * 1) _ (by kernel_rfl) (by kernel_rfl) h6 ?_
      refine G.make 88 2 32 (.agg #[.bool false, .slice none 0 0]) A[k].length (by kernel_rfl) rfl rfl (by omega) (by omega) (by omega) ?_
      rintro v8 m8 hA8 ⟨a8, rfl⟩
      obtain ⟨g8, rfl, hg8⟩ := hA8.some'
      refine G.loop (ι := Nat × List Value)
        (fun i => [(2, .p 0 0), (3, .p 1002 0), (45, .v (.slice (some ⟨b6, o6, none⟩) A.length c2)), (46, .v (.int .i64 (A.length : Int))), (47, .v (.int .i64 (k : Int))), (12, .v (.slice (some ⟨g8, 0, none⟩) A[k].length A[k].length)), (54, .v (.slice a7 A[k].length c7)), (55, .v (.int .i64 (A[k].length : Int))), (56, .v (.int .i64 (i.1 : Int)))])
        (fun i => [(0, ⟨134, [.v (.bool false), .v (.slice none 0 0), .v (.slice none 0 0)]⟩), (1002, ⟨134, [.v (.bool db), .v (.slice da dn dc), .v (.slice a5 n5 c5)]⟩)])
        (fun i u' m' => i.1 ≤ A[k].length ∧ AtP NumP u' i.2 (cellsOf D (A[k].take i.1)) ∧ ArrAt m5 m' (.slice (some ⟨g8, 0, none⟩) A[k].length A[k].length) 88 2 (i.2 ++ List.replicate (A[k].length - i.1) (.agg #[.bool false, .slice none 0 0])))
        (fun i => A[k].length - i.1) (0, []) (by kernel_rfl) (fun _ => by kernel_rfl) ⟨by kernel_rfl, by kernel_rfl, by kernel_rfl⟩
        ⟨Nat.zero_le _, AtP.nil, by simpa using hA8⟩ ?_
      rintro J3 ⟨j, done⟩ hJ3 u9 m9 l9 ⟨hj9, hN9, hA9⟩
      simp only at hj9 hN9 hA9 hJ3
      have hel9 := hN9.1
      rw [cellsOf, List.length_map, List.length_take] at hel9
      by_cases hlt2 : j < A[k].length
      · refine G.lssT (j : Int) (A[k].length : Int) (by kernel_rfl) (by omega) ?_
        have hqj : A[k][j]? = some A[k][j] := List.getElem?_eq_getElem hlt2
        have hqm := List.getElem_mem hlt2
        have htx := hT _ hmem _ hqm
        have hq0 := (A[k][j]).den_pos
        obtain ⟨b10, o10, e10, rfl, h10, f10⟩ := (f6.mono l9).lp.at hqj
        obtain ⟨x1, x2, x3, x4, x5, x6, x7, x8, rfl⟩ := f10.opn
        refine G.addr b10 o10 A[k].length c7 j 4 (by kernel_rfl) hlt2 ?_
        refine G.loadU (some 4) b10 (o10 + j * 4) _ (by kernel_rfl) (by kernel_rfl) h10 ?_
        refine G.call0 _ _ (by kernel_rfl) Tryz.call135 (fracDen0 f10) ?_
        intro v11 u11 l11 k11
        obtain ⟨b11, a11, n11, c11, rfl⟩ := k11.opn
        refine G.call0 _ _ (by kernel_rfl) Tryz.call136 (numDiv0 ((hD.mono (((l3.trans l5).trans l9).trans l11)).1) k11 (Nat.le_trans (hDs _ hD.2.2) (by omega)) (Nat.le_trans (nl_of_dig htx.den) (by omega)) (by omega)) ?_
        rintro v12 u12 l12 ⟨v13, v14, rfl, k13, k14⟩
        obtain ⟨b13, a13, n13, c13, rfl⟩ := k13.opn
        obtain ⟨b14, a14, n14, c14, rfl⟩ := k14.opn
        refine G.call0 _ _ (by kernel_rfl) Tryz.call137 (fracNum0 (f10.mono (l11.trans l12))) ?_
        intro v15 u15 l15 k15
        obtain ⟨b15, a15, n15, c15, rfl⟩ := k15.opn
        have hdq : ((D : Int) / (A[k][j].den : Int)) = ((D / A[k][j].den : Nat) : Int) := by push_cast; rfl
        rw [hdq] at k13
        refine G.call0 _ _ (by kernel_rfl) Tryz.call108 (numMul0 k15 (k13.mono l15) (Nat.le_trans (nl_of_dig htx.1) (by omega)) (by rw [Int.natAbs_natCast]; exact Nat.le_trans (nl_div_le _ _) (Nat.le_trans (hDs _ hD.2.2) (by omega)))) ?_
        intro v16 u16 l16 k16
        obtain ⟨b16, a16, n16, c16, rfl⟩ := k16.opn
        refine G.addr g8 0 A[k].length A[k].length j 2 (by kernel_rfl) hlt2 ?_
        refine G.storeA 2 m5 _ g8 A[k].length A[k].length j (.agg #[.bool b16, .slice a16 n16 c16]) (by kernel_rfl) hA9 (by simp; omega) rfl rfl ?_
        intro m17 hA17
        rw [set_fill (by omega) hlt2] at hA17
        refine G.add (j : Int) 1 ((j + 1 : Nat) : Int) (by kernel_rfl) (by omega) (by omega) (by omega) ?_
        refine G.back (by kernel_rfl) (hJ3 (j + 1, done ++ [.agg #[.bool b16, .slice a16 n16 c16]]) _ _ _ ⟨by kernel_rfl, by kernel_rfl, by kernel_rfl⟩ ((((l9.trans l11).trans l12).trans l15).trans l16) ⟨by dsimp only; omega, ?_, hA17⟩ (by dsimp only; omega))
        dsimp only
        rw [List.take_add_one, hqj, cellsOf, List.map_append]
        exact (hN9.mono (fun _ _ h => h.mono (((l11.trans l12).trans l15).trans l16))).snoc k16
      · have : j = A[k].length := by omega
        subst this
        rw [List.take_length] at hN9
        rw [Nat.sub_self, List.replicate_zero, List.append_nil] at hA9
        refine G.lssF (A[k].length : Int) (A[k].length : Int) (by kernel_rfl) (by omega) ?_
        refine G.give m5 done _ (by kernel_rfl) hA9 (fun _ => .inl rfl) ?_
        intro u10 l10 hL10
        refine G.buildU 170 1 24 (.slice none 0 0) [.slice (some ⟨g8, 0, none⟩) A[k].length A[k].length] (by kernel_rfl) (slice_ok _ _ _) rfl (by omega) (by simp) (by simp) ?_
        intro g11 u11 l11 e11
        refine G.append 170 1 24 (.slice none 0 0) PH.mt cv [.slice (some ⟨g8, 0, none⟩) A[k].length A[k].length] (.slice a5 n5 c5) g11 0 1 1 (by kernel_rfl) rfl rfl (by omega) hA5 e11 (slice_ok _ _ _) rfl (by omega) (by omega) (by omega) ?_
        intro v12 m12 hA12
        obtain ⟨a12, c12, rfl⟩ := hA12.shape
        refine G.add (k : Int) 1 ((k + 1 : Nat) : Int) (by kernel_rfl) (by omega) (by omega) (by omega) ?_
        refine G.back (by kernel_rfl) (hJ2 (k + 1, cv ++ [.slice (some ⟨g8, 0, none⟩) A[k].length A[k].length], (a12, (cv ++ [Value.slice (some ⟨g8, 0, none⟩) A[k].length A[k].length]).length, c12)) _ _ _ ⟨by kernel_rfl, by kernel_rfl, by kernel_rfl⟩ (((l5.trans l9).trans l10).trans l11) ⟨by dsimp only; omega, ?_, hA12⟩ (by dsimp only; omega))
        dsimp only
        rw [List.take_add_one, htk, List.map_append]
        exact (hN.mono (fun _ _ h => h.mono ((l9.trans l10).trans l11))).snoc (x := cellsOf D A[k]) ⟨done, hL10.mono l11, hN9.mono (fun _ _ h => h.mono (l10.trans l11))⟩
    · have : k = A.length := by omega
      subst this
      rw [List.take_length] at hN
      refine G.lssF (A.length : Int) (A.length : Int) (by kernel_rfl) (by omega) ?_
      refine G.give PH.mt cv _ (by kernel_rfl) hA5 (fun _ => .inl rfl) ?_
      intro u6 l6 hL6
      exact G.ret (.agg #[.bool db, .slice da dn dc, .slice a5 n5 c5]) (by kernel_rfl) ⟨rfl, D, hD.2.1, hD.2.2, hdv, db, da, dn, dc, a5, n5, c5, rfl, (hD.mono ((l3.trans l5).trans l6)).1, cv, hL6, hN.mono (fun _ _ h => h.mono l6)⟩
end Go.Proofs.YtldokelpolbnnaaGreatDoor
end
section
set_option linter.unusedSectionVars false
set_option linter.unusedVariables false
namespace Go.Proofs.YtldokelpolbnnaaGreatDoor
open Go.RowKit
theorem NMatP.opn {u : PH} {v : Value} {cs : List (List Int)} (h : NMatP u v cs) : ∃ a c, v = .slice a cs.length c := LP.opn h
theorem NumsP.opn {u : PH} {v : Value} {cs : List Int} (h : NumsP u v cs) : ∃ a c, v = .slice a cs.length c := LP.opn h
set_option maxHeartbeats 1000000 in
theorem digits0 {u : PH} {v : Value} {D K : Nat} {cs : List (List Int)} (ht : TabU u) (h : TabP u v D cs) (hK : K ≤ 400) (hD : Lib.nDigits D ≤ K) (hc : ∀ r ∈ cs, ∀ z ∈ r, Lib.nDigits z.natAbs ≤ K) (hl : cs.length ≤ 1000000) (hl2 : ∀ r ∈ cs, r.length ≤ 1000000) :
    Fn0 Tryz.prog 89 [v] u fun v' _ => ∃ n : Nat, v' = .int .i64 (n : Int) ∧ n ≤ K := by
  obtain ⟨b, a, n, c, a', n', c', rfl, h1, h2⟩ := h
  obtain ⟨a'', c'', e⟩ := h2.opn
  simp only [Value.slice.injEq] at e
  obtain ⟨rfl, rfl, rfl⟩ := e
  refine Fn0.of Tryz.func89 (by kernel_rfl) (by kernel_rfl) ?_
  refine G.call0 _ _ (by kernel_rfl) Tryz.call121 (numDigits0 ht h1 (by rw [Int.natAbs_natCast]; exact Nat.le_trans (nl_of_dig (by omega)) (by omega))) ?_
  rintro v1 u1 l1 rfl
  rw [Int.natAbs_natCast]
  refine G.loop (ι := Nat × Nat) (fun i => [(1, .p 0 0), (3, .v (.int .i64 (i.2 : Int))), (12, .v (.slice a' cs.length c')), (13, .v (.int .i64 (cs.length : Int))), (14, .v (.int .i64 (i.1 : Int)))])
    (fun i => [(0, ⟨134, [.v (.bool b), .v (.slice a n c), .v (.slice a' cs.length c')]⟩)])
    (fun i u' m' => i.1 ≤ cs.length ∧ i.2 ≤ K ∧ m' = PH.mt) (fun i => cs.length - i.1) (0, Lib.nDigits D) (by kernel_rfl) (fun _ => by kernel_rfl) ⟨by kernel_rfl, by kernel_rfl, by kernel_rfl⟩ ⟨Nat.zero_le _, hD, rfl⟩ ?_
  rintro J ⟨i, k⟩ hJ u2 m2 l2 ⟨hi, hk, rfl⟩
  simp only at hi hk hJ
  by_cases hlt : i < cs.length
  · refine G.lssT (i : Int) (cs.length : Int) (by kernel_rfl) (by omega) ?_
    have hti : cs[i]? = some cs[i] := List.getElem?_eq_getElem hlt
    have hmem := List.getElem_mem hlt
    obtain ⟨b3, o3, e3, rfl, h3, f3⟩ := LP.at (h2.mono (l1.trans l2)) hti
    obtain ⟨a4, c4, rfl⟩ := f3.opn
    refine G.addr b3 o3 cs.length c' i 1 (by kernel_rfl) hlt ?_
    refine G.loadU none b3 (o3 + i * 1) _ (by kernel_rfl) (by kernel_rfl) h3 ?_
    refine G.loop (ι := Nat × Nat) (fun j => [(1, .p 0 0), (3, .v (.int .i64 (j.2 : Int))), (12, .v (.slice (some ⟨b3, o3, none⟩) cs.length c')), (13, .v (.int .i64 (cs.length : Int))), (14, .v (.int .i64 (i : Int))), (18, .v (.slice a4 cs[i].length c4)), (19, .v (.int .i64 (cs[i].length : Int))), (20, .v (.int .i64 (j.1 : Int)))])
      (fun j => [(0, ⟨134, [.v (.bool b), .v (.slice a n c), .v (.slice (some ⟨b3, o3, none⟩) cs.length c')]⟩)])
      (fun j u' m' => j.1 ≤ cs[i].length ∧ j.2 ≤ K ∧ m' = PH.mt) (fun j => cs[i].length - j.1) (0, k) (by kernel_rfl) (fun _ => by kernel_rfl) ⟨by kernel_rfl, by kernel_rfl, by kernel_rfl⟩ ⟨Nat.zero_le _, hk, rfl⟩ ?_
    rintro J2 ⟨j, k2⟩ hJ2 u5 m5 l5 ⟨hj, hk2, rfl⟩
    simp only at hj hk2 hJ2
    have hrl := hl2 _ hmem
    by_cases hlt2 : j < cs[i].length
    · refine G.lssT (j : Int) (cs[i].length : Int) (by kernel_rfl) (by omega) ?_
      have htj : cs[i][j]? = some cs[i][j] := List.getElem?_eq_getElem hlt2
      have hzm := hc _ hmem _ (List.getElem_mem hlt2)
      obtain ⟨b6, o6, e6, rfl, h6, f6⟩ := LP.at (f3.mono l5) htj
      obtain ⟨b7, a7, n7, c7, rfl⟩ := f6.opn
      refine G.addr b6 o6 cs[i].length c4 j 2 (by kernel_rfl) hlt2 ?_
      refine G.loadU (some 2) b6 (o6 + j * 2) _ (by kernel_rfl) (by kernel_rfl) h6 ?_
      refine G.call0 _ _ (by kernel_rfl) Tryz.call121 (numDigits0 (ht.mono ((l1.trans l2).trans l5)) f6 (Nat.le_trans (nl_of_dig (by omega)) (by omega))) ?_
      rintro v8 u8 l8 rfl
      generalize Lib.nDigits (cs[i][j]).natAbs = d at *
      refine G.maxI [3, 3] (k2 : Int) (d : Int) ((max k2 d : Nat) : Int) (by kernel_rfl) (by omega) ?_
      refine G.add (j : Int) 1 ((j + 1 : Nat) : Int) (by kernel_rfl) (by omega) (by omega) (by omega) ?_
      exact G.back (by kernel_rfl) (hJ2 (j + 1, max k2 d) _ _ _ ⟨by kernel_rfl, by kernel_rfl, by kernel_rfl⟩ (l5.trans l8) ⟨by dsimp only; omega, by dsimp only; omega, rfl⟩ (by dsimp only; omega))
    · refine G.lssF (j : Int) (cs[i].length : Int) (by kernel_rfl) (by omega) ?_
      refine G.add (i : Int) 1 ((i + 1 : Nat) : Int) (by kernel_rfl) (by omega) (by omega) (by omega) ?_
      exact G.back (by kernel_rfl) (hJ (i + 1, k2) _ _ _ ⟨by kernel_rfl, by kernel_rfl, by kernel_rfl⟩ (l2.trans l5) ⟨by dsimp only; omega, hk2, rfl⟩ (by dsimp only; omega))
  · refine G.lssF (i : Int) (cs.length : Int) (by kernel_rfl) (by omega) ?_
    exact G.ret (.int .i64 (k : Int)) (by kernel_rfl) ⟨rfl, k, rfl, hk⟩
set_option maxHeartbeats 1000000 in
theorem heavy0 {u : PH} {v : Value} {A : List (List Rat)} {L K N : Nat} (ht : TabU u) (h : MatP u v (matT A)) (hT : ∀ r ∈ A, ∀ q ∈ r, Tx q) (hl : A.length ≤ N) (hl2 : ∀ r ∈ A, r.length ≤ N) (hN : N ≤ 12) (hNK : N * K ≤ 600) (hK : K ≤ 400)
    (hL : ∀ r ∈ A, ∀ q ∈ r, q.den ∣ L) (hL0 : 0 < L) (hLs : nl L ≤ 1000000000) (hD : ∀ D : Nat, D ∣ L → 0 < D → Lib.nDigits D ≤ K ∧ ∀ r ∈ A, ∀ q ∈ r, q.den ∣ D → Lib.nDigits (q.num * ((D / q.den : Nat) : Int)).natAbs ≤ K) :
    Fn0 Tryz.prog 45 [v] u fun v' _ => v' = .bool false := by
  have hof := fun (v : Value) (u' : PH) (hv : MatP u' v (matT A)) => elimOf0 hv hT (by omega) (fun r hr => by have := hl2 r hr; omega) hL hL0 hLs
  obtain ⟨a, c, rfl⟩ := h.opn
  rw [matT_length] at h ⊢
  have hdig := fun (u' : PH) (x : Value) (D : Nat) (ht' : TabU u') (hx : TabP u' x D (A.map (cellsOf D))) (h1 : D ∣ L) (h0 : 0 < D) (h2 : ∀ r ∈ A, ∀ q ∈ r, q.den ∣ D) =>
    digits0 (K := K) ht' hx hK (hD D h1 h0).1 (fun r hr z hz => by
      obtain ⟨r0, hr0, rfl⟩ := List.mem_map.1 hr
      obtain ⟨q, hq, rfl⟩ := List.mem_map.1 hz
      exact (hD D h1 h0).2 r0 hr0 q hq (h2 r0 hr0 q hq)) (by rw [List.length_map]; omega) (fun r hr => by
      obtain ⟨r0, hr0, rfl⟩ := List.mem_map.1 hr
      rw [cellsOf, List.length_map]; have := hl2 r0 hr0; omega)
  refine Fn0.of Tryz.func45 (by kernel_rfl) (by kernel_rfl) ?_
  by_cases hpos : 0 < A.length
  · refine G.gtrT (A.length : Int) 0 (by kernel_rfl) (by omega) ?_
    have htk : A[0]? = some A[0] := List.getElem?_eq_getElem hpos
    have hrl := hl2 _ (List.getElem_mem hpos)
    obtain ⟨ba, oa, a', c', rfl, ea, es⟩ := h.row (matT_at htk)
    rw [List.length_map] at ea
    generalize A[0].length = r0 at *
    refine G.addr ba oa A.length c 0 1 (by kernel_rfl) (by omega) ?_
    refine G.loadU none ba (oa + 0 * 1) (.slice a' r0 c') (by kernel_rfl) (by kernel_rfl) ea ?_
    refine G.maxI [3, 3] (A.length : Int) (r0 : Int) ((max A.length r0 : Nat) : Int) (by kernel_rfl) (by omega) ?_
    refine G.call0 _ _ (by kernel_rfl) Tryz.call88 (hof _ _ h) ?_
    rintro v1 u1 l1 ⟨D, hD0, hDL, hdv, hTab⟩
    have hTab' := hTab
    obtain ⟨x1, x2, x3, x4, x5, x6, x7, rfl, _, _⟩ := hTab
    refine G.call0 _ _ (by kernel_rfl) Tryz.call89 (hdig _ _ D (ht.mono l1) hTab' hDL hD0 hdv) ?_
    rintro v2 u2 l2 ⟨n, rfl, hn⟩
    have hm : max A.length r0 * n ≤ 600 := Nat.le_trans (Nat.mul_le_mul (by omega : max A.length r0 ≤ N) hn) hNK
    refine G.mul ((max A.length r0 : Nat) : Int) (n : Int) ((max A.length r0 * n : Nat) : Int) (by kernel_rfl) (by push_cast; rfl) (by omega) (by omega) ?_
    refine G.gtrF ((max A.length r0 * n : Nat) : Int) 600 (by kernel_rfl) (by omega) ?_
    exact G.ret (.bool false) (by kernel_rfl) ⟨rfl, rfl⟩
  · refine G.gtrF (A.length : Int) 0 (by kernel_rfl) (by omega) ?_
    refine G.call0 _ _ (by kernel_rfl) Tryz.call88 (hof _ _ h) ?_
    rintro v1 u1 l1 ⟨D, hD0, hDL, hdv, hTab⟩
    have hTab' := hTab
    obtain ⟨x1, x2, x3, x4, x5, x6, x7, rfl, _, _⟩ := hTab
    refine G.call0 _ _ (by kernel_rfl) Tryz.call89 (hdig _ _ D (ht.mono l1) hTab' hDL hD0 hdv) ?_
    rintro v2 u2 l2 ⟨n, rfl, hn⟩
    have h0 : A.length = 0 := by omega
    refine G.mul (A.length : Int) (n : Int) 0 (by kernel_rfl) (by rw [h0]; simp) (by omega) (by omega) ?_
    refine G.gtrF 0 600 (by kernel_rfl) (by omega) ?_
    exact G.ret (.bool false) (by kernel_rfl) ⟨rfl, rfl⟩
structure Light (A : List (List Rat)) (L K : Nat) : Prop where
  den : ∀ r ∈ A, ∀ q ∈ r, q.den ∣ L
  pos : 0 < L
  nl : nl L ≤ 1000000000
  dig : ∀ D : Nat, D ∣ L → 0 < D → Lib.nDigits D ≤ K ∧ ∀ r ∈ A, ∀ q ∈ r, q.den ∣ D → Lib.nDigits (q.num * ((D / q.den : Nat) : Int)).natAbs ≤ K
theorem large0 {u : PH} {v : Value} {A : List (List Rat)} {L K : Nat} (ht : TabU u) (h : MatP u v (matT A)) (hT : ∀ r ∈ A, ∀ q ∈ r, Tx q) (hl : A.length ≤ 6) (hl2 : ∀ r ∈ A, r.length ≤ 6) (hK : 6 * K ≤ 600) (hL : Light A L K) :
    Fn0 Tryz.prog 44 [v] u fun v' _ => v' = .bool false := by
  have hh := fun (v : Value) (hv : MatP u v (matT A)) => heavy0 (N := 6) ht hv hT hl hl2 (by omega) hK (by omega) hL.den hL.pos hL.nl hL.dig
  obtain ⟨a, c, rfl⟩ := h.opn
  rw [matT_length] at h ⊢
  refine Fn0.of Tryz.func44 (by kernel_rfl) (by kernel_rfl) ?_
  refine G.gtrF (A.length : Int) 6 (by kernel_rfl) (by omega) ?_
  refine G.call0 _ _ (by kernel_rfl) Tryz.call45 (hh _ h) ?_
  rintro v1 u1 l1 rfl
  exact G.ret (.bool false) (by kernel_rfl) ⟨rfl, rfl⟩
end Go.Proofs.YtldokelpolbnnaaGreatDoor
end
section
set_option linter.unusedSectionVars false
set_option linter.unusedVariables false
namespace Go.Proofs.YtldokelpolbnnaaGreatDoor
open Go.RowKit
structure Arr where
  v : Value
  t : TypeId
  sz : Nat
  es : List Value
def Arr.At (a : Arr) (m0 m : PH) : Prop := ArrAt m0 m a.v a.t a.sz a.es
def Bag : PH → List Arr → Prop
  | _, [] => True
  | m, a :: l => ∃ m0, a.At m0 m ∧ Bag m0 l
theorem upd_comm (m : PH) {g h : Nat} (o p : Obj) (hn : g ≠ h) : (m.upd g o).upd h p = (m.upd h p).upd g o := by
  funext k
  unfold PH.upd
  by_cases h1 : k = g
  · subst h1; simp [hn]
  · by_cases h2 : k = h
    · subst h2; simp [h1]
    · simp [h1, h2]
theorem At.swap {x y : Arr} {m0 m1 m : PH} (hy : y.At m1 m) (hx : x.At m0 m1) : ∃ m2, y.At m0 m2 ∧ x.At m2 m ∧ ∀ (x' : Arr) m', x'.At m2 m' → ∃ m1', y.At m1' m' ∧ x'.At m0 m1' := by
  obtain ⟨oy, hy⟩ := hy
  rcases hy with ⟨y1, y2, rfl⟩ | ⟨h, cap, rest, y1, rfl, y2, y3, y4, y5⟩
  · exact ⟨m0, ⟨oy, .inl ⟨y1, y2, rfl⟩⟩, hx, fun x' m' hx' => ⟨m', ⟨oy, .inl ⟨y1, y2, rfl⟩⟩, hx'⟩⟩
  · obtain ⟨ox, hx⟩ := hx
    rcases hx with ⟨x1, x2, rfl⟩ | ⟨g, cap', rest', x1, rfl, x2, x3, x4, x5⟩
    · refine ⟨_, ⟨oy, .inr ⟨h, cap, rest, y1, rfl, y2, y3, y4, y5⟩⟩, ⟨ox, .inl ⟨x1, x2, rfl⟩⟩, fun x' m' hx' => ?_⟩
      obtain ⟨ox', hx'⟩ := hx'
      rcases hx' with ⟨z1, z2, rfl⟩ | ⟨g', cap'', rest'', z1, rfl, z2, z3, z4, z5⟩
      · exact ⟨_, ⟨oy, .inr ⟨h, cap, rest, y1, rfl, y2, y3, y4, y5⟩⟩, ⟨ox', .inl ⟨z1, z2, rfl⟩⟩⟩
      · have hne : g' ≠ h := fun e => by subst e; rw [upd_same] at z1; cases z1
        rw [upd_ne _ _ hne] at z1
        refine ⟨_, ⟨oy, .inr ⟨h, cap, rest, ?_, upd_comm _ _ _ hne.symm, y2, y3, y4, y5⟩⟩, ⟨ox', .inr ⟨g', cap'', rest'', z1, rfl, z2, z3, z4, z5⟩⟩⟩
        rw [upd_ne _ _ hne.symm]; exact y1
    · have hne : h ≠ g := fun e => by subst e; rw [upd_same] at y1; cases y1
      rw [upd_ne _ _ hne] at y1
      refine ⟨_, ⟨oy, .inr ⟨h, cap, rest, y1, rfl, y2, y3, y4, y5⟩⟩, ⟨ox, .inr ⟨g, cap', rest', ?_, upd_comm _ _ _ hne.symm, x2, x3, x4, x5⟩⟩, fun x' m' hx' => ?_⟩
      · rw [upd_ne _ _ hne.symm]; exact x1
      · obtain ⟨ox', hx'⟩ := hx'
        rcases hx' with ⟨z1, z2, rfl⟩ | ⟨g', cap'', rest'', z1, rfl, z2, z3, z4, z5⟩
        · exact ⟨_, ⟨oy, .inr ⟨h, cap, rest, y1, rfl, y2, y3, y4, y5⟩⟩, ⟨ox', .inl ⟨z1, z2, rfl⟩⟩⟩
        · have hne' : g' ≠ h := fun e => by subst e; rw [upd_same] at z1; cases z1
          rw [upd_ne _ _ hne'] at z1
          refine ⟨_, ⟨oy, .inr ⟨h, cap, rest, ?_, upd_comm _ _ _ hne'.symm, y2, y3, y4, y5⟩⟩, ⟨ox', .inr ⟨g', cap'', rest'', z1, rfl, z2, z3, z4, z5⟩⟩⟩
          rw [upd_ne _ _ hne'.symm]; exact y1
theorem Bag.focus : ∀ {l : List Arr} {m : PH} (_ : Bag m l) (i : Nat) {x : Arr}, l[i]? = some x → ∃ m0, x.At m0 m ∧ ∀ (x' : Arr) m', x'.At m0 m' → Bag m' (l.set i x')
  | [], m, _, i, x, hi => by simp at hi
  | y :: l, m, ⟨m1, hy, hl⟩, 0, x, hi => by
    simp at hi; subst hi
    exact ⟨m1, hy, fun x' m' hx' => ⟨m1, hx', hl⟩⟩
  | y :: l, m, ⟨m1, hy, hl⟩, i + 1, x, hi => by
    simp at hi
    obtain ⟨m0, hx, hput⟩ := Bag.focus hl i hi
    obtain ⟨m2, hy2, hx2, hk⟩ := At.swap hy hx
    refine ⟨m2, hx2, fun x' m' hx' => ?_⟩
    obtain ⟨m1', k1, k2⟩ := hk x' m' hx'
    exact ⟨m1', k1, hput x' m1' k2⟩
theorem Bag.take : ∀ {l : List Arr} {m : PH} (_ : Bag m l) (i : Nat) {x : Arr}, l[i]? = some x → ∃ m0, x.At m0 m ∧ Bag m0 (l.eraseIdx i)
  | [], m, _, i, x, hi => by simp at hi
  | y :: l, m, ⟨m1, hy, hl⟩, 0, x, hi => by
    simp at hi; subst hi
    exact ⟨m1, hy, hl⟩
  | y :: l, m, ⟨m1, hy, hl⟩, i + 1, x, hi => by
    simp at hi
    obtain ⟨m0, hx, hput⟩ := Bag.take hl i hi
    obtain ⟨m2, hy2, hx2, hk⟩ := At.swap hy hx
    exact ⟨m2, hx2, m0, hy2, hput⟩
theorem Bag.add {l : List Arr} {m m' : PH} (h : Bag m l) {x : Arr} (hx : x.At m m') : Bag m' (x :: l) := ⟨m, hx, h⟩
theorem Bag.el {l : List Arr} {m : PH} (h : Bag m l) (i : Nat) {x : Arr} (hi : l[i]? = some x) {b n c j : Nat} {e : Value} (hv : x.v = .slice (some ⟨b, 0, none⟩) n c) (hj : x.es[j]? = some e) : ElP m b (0 + j * x.sz) e := by
  obtain ⟨m0, hx, _⟩ := h.focus i hi
  unfold Arr.At at hx
  rw [hv] at hx
  exact hx.el hj
theorem Bag.shape {l : List Arr} {m : PH} (h : Bag m l) (i : Nat) {x : Arr} (hi : l[i]? = some x) : ∃ a c, x.v = .slice a x.es.length c := by
  obtain ⟨m0, hx, _⟩ := h.focus i hi
  exact hx.shape
theorem Bag.ptr {l : List Arr} {m : PH} (h : Bag m l) (i : Nat) {x : Arr} (hi : l[i]? = some x) (hn : x.es ≠ []) : ∃ b c, x.v = .slice (some ⟨b, 0, none⟩) x.es.length c := by
  obtain ⟨m0, hx, _⟩ := h.focus i hi
  exact hx.ptr hn
theorem ArrAt.join {m mc : PH} {v : Value} {t : TypeId} {sz : Nat} {es : List Value} (h : ArrAt PH.mt mc v t sz es) (hf : ∀ g, mc g ≠ none → m g = none) : ArrAt m (m.or mc) v t sz es := by
  obtain ⟨ho, h⟩ := h
  rcases h with ⟨h1, h2, rfl⟩ | ⟨g, cap, rest, h1, rfl, h2, h3, h4, h5⟩
  · refine ⟨ho, .inl ⟨h1, h2, ?_⟩⟩
    funext k; unfold PH.or; split
    · rename_i o e; rw [e]
    · rename_i e; rw [e]; rfl
  · have hg : m g = none := hf g (by rw [upd_same]; simp)
    refine ⟨ho, .inr ⟨g, cap, rest, hg, ?_, h2, h3, h4, h5⟩⟩
    funext k
    by_cases hk : k = g
    · subst hk; rw [upd_same, PH.or_r hg, upd_same]
    · rw [upd_ne _ _ hk]
      unfold PH.or; split
      · rename_i o e; rw [e]
      · rename_i e; rw [e, upd_ne _ _ hk]; rfl
section rules
variable {P : Program} [Mixed P] {fn : Func} {Post : Spec} {st : List KI × S} {u m : PH}
theorem G.callO (f : Nat) (args : List Value) {R : Value → PH → PH → Prop} (h : stopV P (adv P st) = .call f args) (hc : ∀ args w, (callFunc f args).run P w = .ok (.enter f args) w) (c : Contract P f args u PH.mt R)
    (k : ∀ v u' mc, PH.le u u' → R v u' mc → (∀ g, mc g ≠ none → m g = none) → G P fn Post (nx (adv P st) v) u' (m.or mc)) : G P fn Post st u m := by
  refine G.big (K := fun v u' m' => ∃ mc, m' = m.or mc ∧ R v u' mc ∧ ∀ g, mc g ≠ none → m g = none) h (by simp) view_call_free (.inl fun v u' m' hK => ?_) (fun env o hview w hgd => ?_) (fun v u' m' h1 h2 => ?_)
  · obtain ⟨mc, rfl, _⟩ := hK
    exact fun g o hg => PH.or_l hg
  · refine does_call hview hc w _ (Calls.mono (c w hgd.noM) fun e w' he => ?_)
    obtain ⟨v, u', mc, e1, e2, e3, e4⟩ := he
    have hor : m.or PH.mt = m := by
      funext g; unfold PH.or; split
      · rename_i o e; rw [e]
      · rename_i e; rw [e]; rfl
    have hfr : ∀ g, mc g ≠ none → m g = none := fun g hg => by
      rcases Nat.lt_or_ge g w.heap.size with hlt | hge
      · exact absurd (e3.ms g hlt rfl) hg
      · exact hgd.pm.none hge
    obtain ⟨g1, g2⟩ := Good.frameM (mf := m) (mc := PH.mt) (by rw [hor]; exact hgd) (fun _ => .inr rfl) e2 e3
    rw [hor] at g2
    exact ⟨v, e1, u', m.or mc, g1, g2, mc, rfl, e4, hfr⟩
  · obtain ⟨mc, rfl, hR, hf⟩ := h2
    exact k v u' mc h1 hR hf
theorem view_copy {env : Operand → Value} {o : Op} {ts : List TypeId} {xs : List Value} (h : viewOp P env o = .blt .copy ts xs) : mutOp o = true ∧ freeOp o = false := by
  obtain ⟨c, rfl, h2, _⟩ := view_blt h
  obtain ⟨cal, a, t⟩ := c
  simp only at h2; subst h2
  exact ⟨rfl, rfl⟩
theorem G.copyM (dT sT e : TypeId) (sz g o n c : Nat) (a : Addr) (sn sc : Nat) (t : TypeId) (cur cs : List Value) (h : stopV P (adv P st) = .blt .copy [dT, sT] [.slice (some ⟨g, o, none⟩) n c, .slice (some a) sn sc])
    (hu : P.underlying dT = some (.slice e)) (hsz : szB P e = some sz) (hb : m g = some (.cells cur.toArray t (0, 0))) (hk : cs.length = Nat.min sn n * sz)
    (hsrc : ∀ w, Part u w → Part m w → ∀ (j : Nat) (v : Value), cs[j]? = some v → w.cell? (a.add j) = some v) (hfit : o + cs.length ≤ cur.length) (h1 : ∀ x ∈ cs, cellOK x = true) (h2 : ∀ x ∈ cur, cellOK x = true)
    (k : G P fn Post (nx (adv P st) (.int .i64 ((Nat.min sn n : Nat) : Int))) u (m.upd g (.cells (cur.take o ++ cs ++ cur.drop (o + cs.length)).toArray t (0, 0)))) : G P fn Post st u m := by
  refine G.big (K := fun v' u' m' => u' = u ∧ v' = .int .i64 ((Nat.min sn n : Nat) : Int) ∧ m' = m.upd g (.cells (cur.take o ++ cs ++ cur.drop (o + cs.length)).toArray t (0, 0))) h (by simp) (fun env op hv => (view_copy hv).2) (.inr fun env op hv => (view_copy hv).1) (fun env op hview w hgd => ?_) (fun v' u' m' _ hk => ?_)
  · obtain ⟨cc, e1, e2, e3, e4⟩ := view_blt hview
    obtain ⟨dst, opp, type, pos, after, guard⟩ := op
    obtain ⟨cal, ar, ty⟩ := cc
    simp only at e1 e2 e3 e4; subst e1 e2 e3
    have hgw := hgd.pm g _ hb
    have hl := run_loadCells_list (P := P) w a cs (hsrc w hgd.pu hgd.pm)
    have hst := run_storeCells_at P g o t cs 0 cur.toArray w hgw (by simpa using hfit) (fun x hx => cellOK_one (h1 x hx))
    have hrun : (Builtin.copy_ #[dT, sT] type #[.slice (some ⟨g, o, none⟩) n c, .slice (some a) sn sc]).run P w = .ok (.int .i64 ((Nat.min sn n : Nat) : Int)) (w.setRow g (cur.take o ++ cs ++ cur.drop (o + cs.length)).toArray) := by
      simp only [Nat.add_zero, List.toList_toArray] at hst
      simp [Builtin.copy_, run_underlying hu, Builtin.lenOf, Builtin.firstCells, run_sizeOf' hsz, ← hk, hl]
      rw [hst]
      simp [goInt]
    have hcell : ∀ x ∈ (cur.take o ++ cs ++ cur.drop (o + cs.length)).toArray.toList, cellOK x = true := by
      intro x hx
      simp only [List.toList_toArray, List.mem_append] at hx
      rcases hx with (hx | hx) | hx
      · exact h2 x (List.mem_of_mem_take hx)
      · exact h1 x hx
      · exact h2 x (List.mem_of_mem_drop hx)
    obtain ⟨g1, g2⟩ := hgd.setM hb hcell
    unfold OpDoes
    have hex : (execOp env ⟨dst, .call ⟨.builtin .copy, ar, #[dT, sT]⟩, type, pos, after, guard⟩).run P w = .ok (.value (.int .i64 ((Nat.min sn n : Nat) : Int))) (w.setRow g (cur.take o ++ cs ++ cur.drop (o + cs.length)).toArray) := by
      simp [execOp, resolve, invoke, builtin, e4, hrun]
    rw [hex]
    exact ⟨u, _, g1, g2, rfl, rfl, rfl⟩
  · obtain ⟨rfl, rfl, rfl⟩ := hk
    exact k
end rules
end Go.Proofs.YtldokelpolbnnaaGreatDoor
end
section
set_option linter.unusedSectionVars false
set_option linter.unusedVariables false
namespace Go.Proofs.YtldokelpolbnnaaGreatDoor
open Go.RowKit
theorem flat_take {sz : Nat} {es : List Value} (h : ElsOK sz es) (k : Nat) : (flat es).take (k * sz) = flat (es.take k) := by
  by_cases hk : k ≤ es.length
  · have e : flat es = flat (es.take k) ++ flat (es.drop k) := by rw [← flat_append, List.take_append_drop]
    have hl : (flat (es.take k)).length = k * sz := by rw [flat_length (sz := sz) (fun x hx => h x (List.mem_of_mem_take hx)), List.length_take]; congr 1; omega
    rw [e, List.take_append_of_le_length (by omega), ← hl, List.take_length]
  · rw [List.take_of_length_le (by rw [flat_length h]; exact Nat.mul_le_mul_right _ (by omega)), List.take_of_length_le (by omega)]
theorem flat_drop {sz : Nat} {es : List Value} (h : ElsOK sz es) (k : Nat) : (flat es).drop (k * sz) = flat (es.drop k) := by
  by_cases hk : k ≤ es.length
  · have e : flat es = flat (es.take k) ++ flat (es.drop k) := by rw [← flat_append, List.take_append_drop]
    have hl : (flat (es.take k)).length = k * sz := by rw [flat_length (sz := sz) (fun x hx => h x (List.mem_of_mem_take hx)), List.length_take]; congr 1; omega
    rw [e, ← hl, List.drop_left]
  · rw [List.drop_of_length_le (by rw [flat_length h]; exact Nat.mul_le_mul_right _ (by omega)), List.drop_of_length_le (by omega)]; rfl
theorem ElsOK.replicate {sz : Nat} {e : Value} (h : ElsOK sz [e]) (n : Nat) : ElsOK sz (List.replicate n e) := fun x hx => h x (by rw [List.eq_of_mem_replicate hx]; simp)
section rules
variable {P : Program} [Mixed P] {fn : Func} {Post : Spec} {st : List KI × S} {u m : PH}
theorem G.copyA (dT sT e : TypeId) (sz g n k : Nat) (a : Addr) (sn sc c : Nat) (t : TypeId) (m0 : PH) (es xs : List Value) (h : stopV P (adv P st) = .blt .copy [dT, sT] [.slice (some ⟨g, 0 + k * sz, none⟩) (n - k) c, .slice (some a) sn sc])
    (hu : P.underlying dT = some (.slice e)) (hsz : szB P e = some sz) (ha : ArrAt m0 m (.slice (some ⟨g, 0, none⟩) n n) t sz es) (ho : ElsOK sz xs) (hk : xs.length = Nat.min sn (n - k)) (hkn : k ≤ n)
    (hsrc : ∀ w, Part u w → Part m w → ∀ (j : Nat) (v : Value), (flat xs)[j]? = some v → w.cell? (a.add j) = some v)
    (kk : ∀ m', ArrAt m0 m' (.slice (some ⟨g, 0, none⟩) n n) t sz (es.take k ++ xs ++ es.drop (k + xs.length)) → G P fn Post (nx (adv P st) (.int .i64 ((Nat.min sn (n - k) : Nat) : Int))) u m') : G P fn Post st u m := by
  have hlen := ha.len
  obtain ⟨hoe, h'⟩ := ha
  rcases h' with ⟨h1, _, _⟩ | ⟨g', cap, rest, h1, rfl, h2, h3, h4, h5⟩
  · simp at h1
  simp only [Value.slice.injEq, Option.some.injEq, Addr.mk.injEq, and_true] at h2
  obtain ⟨rfl, h2, rfl⟩ := h2
  have hr : rest = [] := by
    rw [List.length_append, flat_length hoe, ← h2] at h4
    exact List.eq_nil_of_length_eq_zero (by omega)
  subst hr
  simp only [List.append_nil] at h4 ⊢
  have hmin : Nat.min sn (n - k) ≤ n - k := Nat.min_le_right _ _
  have hfl : (flat xs).length = Nat.min sn (n - k) * sz := by rw [flat_length ho, hk]
  refine G.copyM dT sT e sz g (0 + k * sz) (n - k) c a sn sc t (flat es) (flat xs) h hu hsz (upd_same _ _ _) hfl (by simpa using hsrc) (by rw [hfl, flat_length hoe, ← h2, Nat.zero_add, ← Nat.add_mul]; exact Nat.mul_le_mul_right _ (by omega)) (flat_ok ho) (flat_ok hoe) ?_
  rw [upd_upd]
  refine kk _ ⟨?_, .inr ⟨g, n, [], h1, ?_, ?_, ?_, ?_, by simp⟩⟩
  · exact ((ElsOK.append (fun x hx => hoe x (List.mem_of_mem_take hx)) ho).append (fun x hx => hoe x (List.mem_of_mem_drop hx)))
  · congr 3
    rw [Nat.zero_add, flat_take hoe, hfl, ← Nat.add_mul, flat_drop hoe, ← flat_append, ← flat_append, List.append_nil, hk]
  · congr 1
    simp only [List.length_append, List.length_take, List.length_drop, hk]
    omega
  · simp only [List.length_append, List.length_take, List.length_drop, hk]
    omega
  · rw [List.append_nil, flat_length (sz := sz)]
    · congr 1
      simp only [List.length_append, List.length_take, List.length_drop, hk]
      omega
    · exact ((ElsOK.append (fun x hx => hoe x (List.mem_of_mem_take hx)) ho).append (fun x hx => hoe x (List.mem_of_mem_drop hx)))
end rules
theorem bitsMul1 {u : PH} {n : Nat} (hn : n ≤ 1000000) : Fn0 Tryz.prog 90 [.int .u64 1, .int .u64 (n : Int)] u fun v _ => v = .tuple #[.int .u64 0, .int .u64 (n : Int)] := by
  refine Fn0.ofW (fun v _ => v = .tuple #[.int .u64 0, .int .u64 (n : Int)]) (fun w _ => (Tryz.bits_Mul 1 n (by omega) (by omega) w).mono fun _ _ ⟨e, h⟩ => ⟨_, e, ?_, by rw [h]; exact Ext.refl _⟩) (fun _ _ _ h _ _ _ => h)
  rw [Nat.one_mul, Nat.div_eq_of_lt (by omega), Nat.mod_eq_of_lt (by omega)]; rfl
theorem u64_wrap {z : Int} (h1 : 0 ≤ z) (h2 : z < 18446744073709551616) : IntKind.u64.wrap z = z := by
  simp only [IntKind.wrap, IntKind.signed, IntKind.bits]; simp; omega
theorem rep_step {e z : Value} {n k q : Nat} (hk : k + q ≤ n) : (List.replicate k e ++ List.replicate (n - k) z).take k ++ List.replicate q e ++ (List.replicate k e ++ List.replicate (n - k) z).drop (k + (List.replicate q e).length) = List.replicate (k + q) e ++ List.replicate (n - (k + q)) z := by
  rw [List.take_left' (by simp), List.length_replicate, List.drop_append, List.drop_of_length_le (by simp), List.length_replicate, List.nil_append, List.drop_replicate, List.replicate_append_replicate]
  congr 2; omega
theorem flat_rep {sz : Nat} {e : Value} {g q k r : Nat} {z : Value} {u m m0 : PH} {t : TypeId} {n : Nat} (ho : ElsOK sz [e]) (hq : q ≤ k) (hsz : 0 < sz) (hA : ArrAt m0 m (.slice (some ⟨g, 0, none⟩) n n) t sz (List.replicate k e ++ List.replicate r z)) :
    ∀ w, Part u w → Part m w → ∀ (j : Nat) (v : Value), (flat (List.replicate q e))[j]? = some v → w.cell? ((⟨g, 0, none⟩ : Addr).add j) = some v := by
  intro w _ hp j v hj
  refine ElsP.cells (u := m) (b := g) (off := 0) hsz (fun i x hi => ?_) (ho.replicate q) hp j v hj
  have hlt : i < q := by
    rcases Nat.lt_or_ge i q with h | h
    · exact h
    · rw [List.getElem?_eq_none (by simpa using h)] at hi; cases hi
  have hx : x = e := by rw [List.getElem?_replicate, if_pos hlt] at hi; exact (Option.some.inj hi).symm
  subst hx
  refine hA.el ?_
  rw [List.getElem?_append_left (by simp; omega), List.getElem?_replicate, if_pos (by omega)]
set_option maxHeartbeats 1000000 in
theorem repeatS0 {u : PH} {v e : Value} {n : Nat} (h : ListP u v 1 [e]) (ho : ElsOK 1 [e]) (hn : n ≤ 1000000) :
    Fn0 Tryz.prog 47 [v, .int .i64 (n : Int)] u fun v' u' => ListP u' v' 1 (List.replicate n e) := by
  obtain ⟨a, c, rfl⟩ := h.opn
  have hea := ListP.at' h (j := 0) (e := e) rfl
  obtain ⟨b, off, rfl, hel⟩ := hea
  refine Fn0.of Tryz.func47 (by kernel_rfl) (by kernel_rfl) ?_
  refine G.lssF (n : Int) 0 (by kernel_rfl) (by omega) ?_
  refine G.convI .i64 .u64 .i64 1 1 (by kernel_rfl) (u64_wrap (by omega) (by omega)) ?_
  refine G.convI .i64 .u64 .i64 (n : Int) (n : Int) (by kernel_rfl) (u64_wrap (by omega) (by omega)) ?_
  refine G.call0 _ _ (by kernel_rfl) Tryz.call90 (bitsMul1 hn) ?_
  rintro v1 u1 l1 rfl
  refine G.cmpG .gtr .u64 0 0 false (by kernel_rfl) rfl rfl ?_
  refine G.cmpG .gtr .u64 (n : Int) 9223372036854775807 false (by kernel_rfl) rfl (by simp only [cmpZ, decide_eq_false_iff_not]; omega) ?_
  refine G.convI .u64 .i64 .u64 (n : Int) (n : Int) (by kernel_rfl) (i64_wrap (by omega) (by omega)) ?_
  refine G.make 34 1 16 (.string (mkS [])) n (by kernel_rfl) rfl rfl (by omega) (by omega) (by omega) ?_
  rintro v2 m2 hA ⟨a2, rfl⟩
  obtain ⟨g, rfl, hg⟩ := hA.some'
  have hmn : Nat.min 1 (n - 0) ≤ 1 := Nat.min_le_left _ _
  refine G.copyA 27 27 34 1 g n 0 ⟨b, off, none⟩ 1 c n 34 PH.mt (List.replicate n (.string (mkS []))) (List.replicate (Nat.min 1 (n - 0)) e) (by kernel_rfl) (by kernel_rfl) (by kernel_rfl) hA (ho.replicate _) (by simp) (Nat.zero_le _) (fun w hp _ j x hj => ?_) ?_
  · refine ElsP.cells (u := u) (b := b) (off := off) (sz := 1) (by omega) (fun i y hi => ?_) (ho.replicate _) (fun g o hg => hp g o (l1 g o hg)) j x hj
    have hlt : i < Nat.min 1 (n - 0) := by
      rcases Nat.lt_or_ge i (Nat.min 1 (n - 0)) with h | h
      · exact h
      · rw [List.getElem?_eq_none (by simpa using h)] at hi; cases hi
    rw [List.getElem?_replicate, if_pos hlt] at hi
    have hy : y = e := (Option.some.inj hi).symm
    subst hy
    have : i = 0 := by omega
    subst this
    exact hel
  intro m3 hA3
  have hs3 := rep_step (e := e) (z := .string (mkS [])) (n := n) (k := 0) (q := Nat.min 1 (n - 0)) (by have : Nat.min 1 (n - 0) ≤ n - 0 := Nat.min_le_right _ _; omega)
  simp only [List.replicate_zero, List.nil_append, Nat.sub_zero, Nat.zero_add] at hs3 hA3
  rw [hs3] at hA3
  clear hs3
  refine G.loop (ι := Nat) (fun k => [(7, .v (.slice (some ⟨g, 0, none⟩) n n)), (8, .v (.int .i64 (k : Int)))]) (fun _ => [])
    (fun k u' m' => k ≤ n ∧ (k = 0 → n = 0) ∧ ArrAt PH.mt m' (.slice (some ⟨g, 0, none⟩) n n) 34 1 (List.replicate k e ++ List.replicate (n - k) (.string (mkS [])))) (fun k => n - k) (Nat.min 1 n) (by kernel_rfl) (fun _ => by kernel_rfl) ⟨by kernel_rfl, by kernel_rfl, by kernel_rfl⟩
    ⟨Nat.min_le_right _ _, fun h => by have h' : min 1 n = 0 := h; omega, hA3⟩ ?_
  rintro J k hJ u4 m4 l4 ⟨hk, hk0, hA4⟩
  by_cases hlt : k < n
  · refine G.lssT (k : Int) (n : Int) (by kernel_rfl) (by omega) ?_
    refine G.sliceFrom g 0 n n k 1 (by kernel_rfl) (by omega) hlt ?_
    refine G.sliceTo 1 (some ⟨g, 0, none⟩) n n k (by kernel_rfl) (by omega) ?_
    have hq1 : Nat.min k (n - k) ≤ k := Nat.min_le_left _ _
    have hq2 : Nat.min k (n - k) ≤ n - k := Nat.min_le_right _ _
    have hq3 : 0 < Nat.min k (n - k) := by show 0 < min k (n - k); omega
    refine G.copyA 27 27 34 1 g n k ⟨g, 0, none⟩ k n (n - k) 34 PH.mt _ (List.replicate (Nat.min k (n - k)) e) (by kernel_rfl) (by kernel_rfl) (by kernel_rfl) hA4 (ho.replicate _) (by simp) hk (flat_rep ho hq1 (by omega) hA4) ?_
    intro m5 hA5
    rw [rep_step (by omega)] at hA5
    generalize Nat.min k (n - k) = q at *
    refine G.add (k : Int) (q : Int) ((k + q : Nat) : Int) (by kernel_rfl) (by omega) (by omega) (by omega) ?_
    exact G.back (by kernel_rfl) (hJ (k + q) _ _ _ ⟨by kernel_rfl, by kernel_rfl, by kernel_rfl⟩ l4 ⟨by omega, by omega, hA5⟩ (by omega))
  · obtain rfl : k = n := by omega
    refine G.lssF (k : Int) (k : Int) (by kernel_rfl) (by omega) ?_
    rw [Nat.sub_self, List.replicate_zero, List.append_nil] at hA4
    refine G.give PH.mt _ _ (by kernel_rfl) hA4 (fun _ => .inl rfl) ?_
    intro u5 l5 hL
    exact G.ret (.slice (some ⟨g, 0, none⟩) k k) (by kernel_rfl) ⟨rfl, hL⟩
set_option maxHeartbeats 1000000 in
theorem repeatF0 {u : PH} {v e : Value} {n : Nat} (h : ListP u v 4 [e]) (ho : ElsOK 4 [e]) (hn : n ≤ 1000000) :
    Contract Tryz.prog 92 [v, .int .i64 (n : Int)] u PH.mt fun v' u' m' => ArrAt PH.mt m' v' 90 4 (List.replicate n e) := by
  obtain ⟨a, c, rfl⟩ := h.opn
  have hea := ListP.at' h (j := 0) (e := e) rfl
  obtain ⟨b, off, rfl, hel⟩ := hea
  refine Contract.of Tryz.func92 (by kernel_rfl) (by kernel_rfl) ?_
  refine G.lssF (n : Int) 0 (by kernel_rfl) (by omega) ?_
  refine G.convI .i64 .u64 .i64 1 1 (by kernel_rfl) (u64_wrap (by omega) (by omega)) ?_
  refine G.convI .i64 .u64 .i64 (n : Int) (n : Int) (by kernel_rfl) (u64_wrap (by omega) (by omega)) ?_
  refine G.call0 _ _ (by kernel_rfl) Tryz.call90 (bitsMul1 hn) ?_
  rintro v1 u1 l1 rfl
  refine G.cmpG .gtr .u64 0 0 false (by kernel_rfl) rfl rfl ?_
  refine G.cmpG .gtr .u64 (n : Int) 9223372036854775807 false (by kernel_rfl) rfl (by simp only [cmpZ, decide_eq_false_iff_not]; omega) ?_
  refine G.convI .u64 .i64 .u64 (n : Int) (n : Int) (by kernel_rfl) (i64_wrap (by omega) (by omega)) ?_
  refine G.make 90 4 64 (.agg #[.bool false, .slice none 0 0, .bool false, .slice none 0 0]) n (by kernel_rfl) rfl rfl (by omega) (by omega) (by omega) ?_
  rintro v2 m2 hA ⟨a2, rfl⟩
  obtain ⟨g, rfl, hg⟩ := hA.some'
  have hmn : Nat.min 1 (n - 0) ≤ 1 := Nat.min_le_left _ _
  refine G.copyA 81 81 90 4 g n 0 ⟨b, off, none⟩ 1 c n 90 PH.mt (List.replicate n (.agg #[.bool false, .slice none 0 0, .bool false, .slice none 0 0])) (List.replicate (Nat.min 1 (n - 0)) e) (by kernel_rfl) (by kernel_rfl) (by kernel_rfl) hA (ho.replicate _) (by simp) (Nat.zero_le _) (fun w hp _ j x hj => ?_) ?_
  · refine ElsP.cells (u := u) (b := b) (off := off) (sz := 4) (by omega) (fun i y hi => ?_) (ho.replicate _) (fun g o hg => hp g o (l1 g o hg)) j x hj
    have hlt : i < Nat.min 1 (n - 0) := by
      rcases Nat.lt_or_ge i (Nat.min 1 (n - 0)) with h | h
      · exact h
      · rw [List.getElem?_eq_none (by simpa using h)] at hi; cases hi
    rw [List.getElem?_replicate, if_pos hlt] at hi
    have hy : y = e := (Option.some.inj hi).symm
    subst hy
    have : i = 0 := by omega
    subst this
    exact hel
  intro m3 hA3
  have hs3 := rep_step (e := e) (z := .agg #[.bool false, .slice none 0 0, .bool false, .slice none 0 0]) (n := n) (k := 0) (q := Nat.min 1 (n - 0)) (by have : Nat.min 1 (n - 0) ≤ n - 0 := Nat.min_le_right _ _; omega)
  simp only [List.replicate_zero, List.nil_append, Nat.sub_zero, Nat.zero_add] at hs3 hA3
  rw [hs3] at hA3
  clear hs3
  refine G.loop (ι := Nat) (fun k => [(7, .v (.slice (some ⟨g, 0, none⟩) n n)), (8, .v (.int .i64 (k : Int)))]) (fun _ => [])
    (fun k u' m' => k ≤ n ∧ (k = 0 → n = 0) ∧ ArrAt PH.mt m' (.slice (some ⟨g, 0, none⟩) n n) 90 4 (List.replicate k e ++ List.replicate (n - k) (.agg #[.bool false, .slice none 0 0, .bool false, .slice none 0 0]))) (fun k => n - k) (Nat.min 1 n) (by kernel_rfl) (fun _ => by kernel_rfl) ⟨by kernel_rfl, by kernel_rfl, by kernel_rfl⟩
    ⟨Nat.min_le_right _ _, fun h => by have h' : min 1 n = 0 := h; omega, hA3⟩ ?_
  rintro J k hJ u4 m4 l4 ⟨hk, hk0, hA4⟩
  by_cases hlt : k < n
  · refine G.lssT (k : Int) (n : Int) (by kernel_rfl) (by omega) ?_
    refine G.sliceFrom g 0 n n k 4 (by kernel_rfl) (by omega) hlt ?_
    refine G.sliceTo 4 (some ⟨g, 0, none⟩) n n k (by kernel_rfl) (by omega) ?_
    have hq1 : Nat.min k (n - k) ≤ k := Nat.min_le_left _ _
    have hq2 : Nat.min k (n - k) ≤ n - k := Nat.min_le_right _ _
    have hq3 : 0 < Nat.min k (n - k) := by show 0 < min k (n - k); omega
    refine G.copyA 81 81 90 4 g n k ⟨g, 0, none⟩ k n (n - k) 90 PH.mt _ (List.replicate (Nat.min k (n - k)) e) (by kernel_rfl) (by kernel_rfl) (by kernel_rfl) hA4 (ho.replicate _) (by simp) hk (flat_rep ho hq1 (by omega) hA4) ?_
    intro m5 hA5
    rw [rep_step (by omega)] at hA5
    generalize Nat.min k (n - k) = q at *
    refine G.add (k : Int) (q : Int) ((k + q : Nat) : Int) (by kernel_rfl) (by omega) (by omega) (by omega) ?_
    exact G.back (by kernel_rfl) (hJ (k + q) _ _ _ ⟨by kernel_rfl, by kernel_rfl, by kernel_rfl⟩ l4 ⟨by omega, by omega, hA5⟩ (by omega))
  · obtain rfl : k = n := by omega
    refine G.lssF (k : Int) (k : Int) (by kernel_rfl) (by omega) ?_
    rw [Nat.sub_self, List.replicate_zero, List.append_nil] at hA4
    exact G.ret (.slice (some ⟨g, 0, none⟩) k k) (by kernel_rfl) hA4
set_option maxHeartbeats 1000000 in
theorem repeatP0 {u : PH} {v e : Value} {n : Nat} (h : ListP u v 4 [e]) (ho : ElsOK 4 [e]) (hn : n ≤ 1000000) :
    Contract Tryz.prog 141 [v, .int .i64 (n : Int)] u PH.mt fun v' u' m' => ArrAt PH.mt m' v' 90 4 (List.replicate n e) := by
  obtain ⟨a, c, rfl⟩ := h.opn
  have hea := ListP.at' h (j := 0) (e := e) rfl
  obtain ⟨b, off, rfl, hel⟩ := hea
  refine Contract.of Tryz.func141 (by kernel_rfl) (by kernel_rfl) ?_
  refine G.lssF (n : Int) 0 (by kernel_rfl) (by omega) ?_
  refine G.convI .i64 .u64 .i64 1 1 (by kernel_rfl) (u64_wrap (by omega) (by omega)) ?_
  refine G.convI .i64 .u64 .i64 (n : Int) (n : Int) (by kernel_rfl) (u64_wrap (by omega) (by omega)) ?_
  refine G.call0 _ _ (by kernel_rfl) Tryz.call90 (bitsMul1 hn) ?_
  rintro v1 u1 l1 rfl
  refine G.cmpG .gtr .u64 0 0 false (by kernel_rfl) rfl rfl ?_
  refine G.cmpG .gtr .u64 (n : Int) 9223372036854775807 false (by kernel_rfl) rfl (by simp only [cmpZ, decide_eq_false_iff_not]; omega) ?_
  refine G.convI .u64 .i64 .u64 (n : Int) (n : Int) (by kernel_rfl) (i64_wrap (by omega) (by omega)) ?_
  refine G.make 90 4 64 (.agg #[.bool false, .slice none 0 0, .bool false, .slice none 0 0]) n (by kernel_rfl) rfl rfl (by omega) (by omega) (by omega) ?_
  rintro v2 m2 hA ⟨a2, rfl⟩
  obtain ⟨g, rfl, hg⟩ := hA.some'
  have hmn : Nat.min 1 (n - 0) ≤ 1 := Nat.min_le_left _ _
  refine G.copyA 82 82 90 4 g n 0 ⟨b, off, none⟩ 1 c n 90 PH.mt (List.replicate n (.agg #[.bool false, .slice none 0 0, .bool false, .slice none 0 0])) (List.replicate (Nat.min 1 (n - 0)) e) (by kernel_rfl) (by kernel_rfl) (by kernel_rfl) hA (ho.replicate _) (by simp) (Nat.zero_le _) (fun w hp _ j x hj => ?_) ?_
  · refine ElsP.cells (u := u) (b := b) (off := off) (sz := 4) (by omega) (fun i y hi => ?_) (ho.replicate _) (fun g o hg => hp g o (l1 g o hg)) j x hj
    have hlt : i < Nat.min 1 (n - 0) := by
      rcases Nat.lt_or_ge i (Nat.min 1 (n - 0)) with h | h
      · exact h
      · rw [List.getElem?_eq_none (by simpa using h)] at hi; cases hi
    rw [List.getElem?_replicate, if_pos hlt] at hi
    have hy : y = e := (Option.some.inj hi).symm
    subst hy
    have : i = 0 := by omega
    subst this
    exact hel
  intro m3 hA3
  have hs3 := rep_step (e := e) (z := .agg #[.bool false, .slice none 0 0, .bool false, .slice none 0 0]) (n := n) (k := 0) (q := Nat.min 1 (n - 0)) (by have : Nat.min 1 (n - 0) ≤ n - 0 := Nat.min_le_right _ _; omega)
  simp only [List.replicate_zero, List.nil_append, Nat.sub_zero, Nat.zero_add] at hs3 hA3
  rw [hs3] at hA3
  clear hs3
  refine G.loop (ι := Nat) (fun k => [(7, .v (.slice (some ⟨g, 0, none⟩) n n)), (8, .v (.int .i64 (k : Int)))]) (fun _ => [])
    (fun k u' m' => k ≤ n ∧ (k = 0 → n = 0) ∧ ArrAt PH.mt m' (.slice (some ⟨g, 0, none⟩) n n) 90 4 (List.replicate k e ++ List.replicate (n - k) (.agg #[.bool false, .slice none 0 0, .bool false, .slice none 0 0]))) (fun k => n - k) (Nat.min 1 n) (by kernel_rfl) (fun _ => by kernel_rfl) ⟨by kernel_rfl, by kernel_rfl, by kernel_rfl⟩
    ⟨Nat.min_le_right _ _, fun h => by have h' : min 1 n = 0 := h; omega, hA3⟩ ?_
  rintro J k hJ u4 m4 l4 ⟨hk, hk0, hA4⟩
  by_cases hlt : k < n
  · refine G.lssT (k : Int) (n : Int) (by kernel_rfl) (by omega) ?_
    refine G.sliceFrom g 0 n n k 4 (by kernel_rfl) (by omega) hlt ?_
    refine G.sliceTo 4 (some ⟨g, 0, none⟩) n n k (by kernel_rfl) (by omega) ?_
    have hq1 : Nat.min k (n - k) ≤ k := Nat.min_le_left _ _
    have hq2 : Nat.min k (n - k) ≤ n - k := Nat.min_le_right _ _
    have hq3 : 0 < Nat.min k (n - k) := by show 0 < min k (n - k); omega
    refine G.copyA 82 82 90 4 g n k ⟨g, 0, none⟩ k n (n - k) 90 PH.mt _ (List.replicate (Nat.min k (n - k)) e) (by kernel_rfl) (by kernel_rfl) (by kernel_rfl) hA4 (ho.replicate _) (by simp) hk (flat_rep ho hq1 (by omega) hA4) ?_
    intro m5 hA5
    rw [rep_step (by omega)] at hA5
    generalize Nat.min k (n - k) = q at *
    refine G.add (k : Int) (q : Int) ((k + q : Nat) : Int) (by kernel_rfl) (by omega) (by omega) (by omega) ?_
    exact G.back (by kernel_rfl) (hJ (k + q) _ _ _ ⟨by kernel_rfl, by kernel_rfl, by kernel_rfl⟩ l4 ⟨by omega, by omega, hA5⟩ (by omega))
  · obtain rfl : k = n := by omega
    refine G.lssF (k : Int) (k : Int) (by kernel_rfl) (by omega) ?_
    rw [Nat.sub_self, List.replicate_zero, List.append_nil] at hA4
    exact G.ret (.slice (some ⟨g, 0, none⟩) k k) (by kernel_rfl) hA4
end Go.Proofs.YtldokelpolbnnaaGreatDoor
end
section
namespace Go.Proofs.YtldokelpolbnnaaGreatDoor
def sg (q : Rat) : Int := if q < 0 then -1 else if 0 < q then 1 else 0
theorem sg_pos {q : Rat} (h : 0 < q) : sg q = 1 := by unfold sg; rw [if_neg (by grind), if_pos h]
theorem sg_neg {q : Rat} (h : q < 0) : sg q = -1 := by unfold sg; rw [if_pos h]
theorem sg_zero : sg 0 = 0 := by simp [sg]
theorem sg_cases (q : Rat) : (q < 0 ∧ sg q = -1) ∨ (q = 0 ∧ sg q = 0) ∨ (0 < q ∧ sg q = 1) := by
  by_cases h : q < 0
  · exact .inl ⟨h, sg_neg h⟩
  · by_cases h' : 0 < q
    · exact .inr (.inr ⟨h', sg_pos h'⟩)
    · have : q = 0 := by grind
      exact .inr (.inl ⟨this, by rw [this]; exact sg_zero⟩)
def chg : Int → List Rat → Nat
  | _, [] => 0
  | s, q :: l => if sg q = -s then chg (-s) l + 1 else chg s l
theorem chg_flip (s : Int) (hs : s = 1 ∨ s = -1) : ∀ l : List Rat, chg s l ≤ chg (-s) l + 1
  | [] => by simp [chg]
  | q :: l => by
    have ih := chg_flip s hs l
    have ih' := chg_flip (-s) (by omega) l
    rw [Int.neg_neg] at ih'
    unfold chg
    rw [Int.neg_neg]
    rcases hs with rfl | rfl <;> rcases sg_cases q with ⟨_, e⟩ | ⟨_, e⟩ | ⟨_, e⟩ <;> simp [e] at ih ih' ⊢ <;> omega
def mulL (r : Rat) : Rat → List Rat → List Rat
  | p, [] => [p]
  | p, c :: l => (p - r * c) :: mulL r c l
theorem neg_mul_pos {r c : Rat} (hr : 0 < r) (hc : 0 < c) : -(r * c) < 0 := by have := Rat.mul_pos hr hc; grind
theorem mul_neg_of {r c : Rat} (hr : 0 < r) (hc : c < 0) : r * c < 0 := by
  have := Rat.mul_pos hr (show 0 < -c by grind); grind
theorem chg_mul {r : Rat} (hr : 0 < r) : ∀ (l : List Rat), (∀ p, p ≠ 0 → chg (sg p) l + 1 ≤ chg (-(sg p)) (mulL r p l)) ∧ ∀ s, s = 1 ∨ s = -1 → chg s l ≤ chg s (mulL r 0 l)
  | [] => by
    refine ⟨fun p hp => ?_, fun s hs => by simp [chg]⟩
    simp [chg, mulL]
  | c :: l => by
    obtain ⟨iA, iB⟩ := chg_mul hr l
    refine ⟨fun p hp => ?_, fun s hs => ?_⟩
    · rcases sg_cases p with ⟨hp1, e⟩ | ⟨hp1, e⟩ | ⟨hp1, e⟩
      · rw [e]
        unfold mulL chg
        rcases sg_cases c with ⟨hc, ec⟩ | ⟨hc, ec⟩ | ⟨hc, ec⟩
        · have i := iA c (by grind)
          have f := chg_flip 1 (by omega) (mulL r c l)
          rw [ec] at i ⊢
          rcases sg_cases (p - r * c) with ⟨_, eo⟩ | ⟨_, eo⟩ | ⟨_, eo⟩ <;> rw [eo] <;> simp at i f ⊢ <;> omega
        · subst hc
          have i := iB (-1) (by omega)
          have : p - r * 0 = p := by grind
          rw [this, e, ec]
          simp at i ⊢; omega
        · have i := iA c (by grind)
          have ho : p - r * c < 0 := by have := Rat.mul_pos hr hc; grind
          rw [sg_neg ho, ec] at *
          simp at i ⊢; omega
      · exact absurd hp1 hp
      · rw [e]
        unfold mulL chg
        rcases sg_cases c with ⟨hc, ec⟩ | ⟨hc, ec⟩ | ⟨hc, ec⟩
        · have i := iA c (by grind)
          have ho : 0 < p - r * c := by have := mul_neg_of hr hc; grind
          rw [sg_pos ho, ec] at *
          simp at i ⊢; omega
        · subst hc
          have i := iB 1 (by omega)
          have : p - r * 0 = p := by grind
          rw [this, e, ec]
          simp at i ⊢; omega
        · have i := iA c (by grind)
          have f := chg_flip (-1) (by omega) (mulL r c l)
          rw [ec] at i ⊢
          rcases sg_cases (p - r * c) with ⟨_, eo⟩ | ⟨_, eo⟩ | ⟨_, eo⟩ <;> rw [eo] <;> simp at i f ⊢ <;> omega
    · unfold mulL chg
      have e0 : (0 : Rat) - r * c = -(r * c) := by grind
      rw [e0]
      rcases sg_cases c with ⟨hc, ec⟩ | ⟨hc, ec⟩ | ⟨hc, ec⟩
      · have i := iA c (by grind)
        have ho : 0 < -(r * c) := by have := mul_neg_of hr hc; grind
        rw [sg_pos ho, ec]
        rw [ec] at i
        have f := chg_flip (-1) (by omega) l
        rcases hs with rfl | rfl <;> simp at i f ⊢ <;> omega
      · subst hc
        have i := iB s hs
        have : -(r * 0) = 0 := by grind
        rw [this, ec]
        rcases hs with rfl | rfl <;> simp at i ⊢ <;> omega
      · have i := iA c (by grind)
        have ho := neg_mul_pos hr hc
        rw [sg_neg ho, ec]
        rw [ec] at i
        have f := chg_flip 1 (by omega) l
        rcases hs with rfl | rfl <;> simp at i f ⊢ <;> omega
def altL : Bool → List Rat → List Rat
  | _, [] => []
  | true, c :: l => -c :: altL false l
  | false, c :: l => c :: altL true l
theorem sg_negate (c : Rat) : sg (-c) = -(sg c) := by
  rcases sg_cases c with ⟨h, e⟩ | ⟨h, e⟩ | ⟨h, e⟩
  · rw [e, sg_pos (by grind)]; rfl
  · subst h; simp [sg]
  · rw [e, sg_neg (by grind)]
theorem chg_alt : ∀ (l : List Rat) (s : Int), s = 1 ∨ s = -1 → ∀ b : Bool,
    chg s l + chg (if b then s else -s) (altL b l) ≤ l.length ∧ chg s l + chg (if b then -s else s) (altL b l) ≤ l.length + 1
  | [], s, hs, b => by cases b <;> simp [chg, altL]
  | c :: l, s, hs, b => by
    have ih := chg_alt l
    cases b with
    | true =>
      unfold altL chg
      simp only [if_true, sg_negate, Int.neg_neg]
      have i1 := ih 1 (by omega) false
      have i2 := ih (-1) (by omega) false
      simp at i1 i2
      rcases hs with rfl | rfl <;> rcases sg_cases c with ⟨_, e⟩ | ⟨_, e⟩ | ⟨_, e⟩ <;> rw [e] <;> simp <;> omega
    | false =>
      unfold altL chg
      simp only [Bool.false_eq_true, if_false, Int.neg_neg]
      have i1 := ih 1 (by omega) true
      have i2 := ih (-1) (by omega) true
      simp at i1 i2
      rcases hs with rfl | rfl <;> rcases sg_cases c with ⟨_, e⟩ | ⟨_, e⟩ | ⟨_, e⟩ <;> rw [e] <;> simp <;> omega
def zer : List Rat → Nat
  | [] => 0
  | q :: l => if q = 0 then zer l + 1 else 0
def var (l : List Rat) : Nat := match l.drop (zer l) with
  | [] => 0
  | q :: r => chg (sg q) r
theorem var_zero (l : List Rat) : var (0 :: l) = var l := by unfold var; simp [zer]
theorem var_nz {q : Rat} (l : List Rat) (h : q ≠ 0) : var (q :: l) = chg (sg q) l := by unfold var; simp [zer, h]
theorem mul_nz {r c : Rat} (hr : r ≠ 0) (hc : c ≠ 0) : r * c ≠ 0 := by
  intro h
  rcases Rat.mul_eq_zero.1 h with h | h
  · exact hr h
  · exact hc h
theorem sg_mulpos {r c : Rat} (hr : 0 < r) : sg (r * c) = sg c := by
  rcases sg_cases c with ⟨h, e⟩ | ⟨h, e⟩ | ⟨h, e⟩
  · rw [e, sg_neg (mul_neg_of hr h)]
  · subst h; rw [Rat.mul_zero]
  · rw [e, sg_pos (Rat.mul_pos hr h)]
theorem var_mul {r : Rat} (hr : 0 < r) : ∀ (l : List Rat), (∃ q ∈ l, q ≠ 0) → var l + 1 ≤ var (mulL r 0 l)
  | [], h => by simp at h
  | c :: l, h => by
    unfold mulL
    have e0 : (0 : Rat) - r * c = -(r * c) := by grind
    rw [e0]
    by_cases hc : c = 0
    · subst hc
      rw [show -(r * 0) = (0 : Rat) by grind, var_zero, var_zero]
      refine var_mul hr l ?_
      obtain ⟨q, hq, hn⟩ := h
      simp at hq
      rcases hq with rfl | hq
      · exact absurd rfl hn
      · exact ⟨q, hq, hn⟩
    · have hn : -(r * c) ≠ 0 := by have := mul_nz (by grind : r ≠ 0) hc; grind
      rw [var_nz _ hc, var_nz _ hn, sg_negate, sg_mulpos hr]
      exact (chg_mul hr l).1 c hc
theorem zer_le : ∀ l : List Rat, zer l ≤ l.length
  | [] => by simp [zer]
  | q :: l => by have := zer_le l; unfold zer; split <;> simp <;> omega
theorem altL_zero (b : Bool) (l : List Rat) : altL b (0 :: l) = 0 :: altL (!b) l := by cases b <;> simp [altL]
theorem var_alt : ∀ (l : List Rat) (b : Bool), (∃ q ∈ l, q ≠ 0) → var l + var (altL b l) + zer l + 1 ≤ l.length
  | [], _, h => by simp at h
  | c :: l, b, h => by
    by_cases hc : c = 0
    · subst hc
      have h' : ∃ q ∈ l, q ≠ 0 := by
        obtain ⟨q, hq, hn⟩ := h
        simp at hq
        rcases hq with rfl | hq
        · exact absurd rfl hn
        · exact ⟨q, hq, hn⟩
      have := var_alt l (!b) h'
      rw [altL_zero, var_zero, var_zero]
      simp [zer]; omega
    · have hz : zer (c :: l) = 0 := by simp [zer, hc]
      rw [hz, var_nz _ hc]
      have hs : sg c = 1 ∨ sg c = -1 := by
        rcases sg_cases c with ⟨h, e⟩ | ⟨h, e⟩ | ⟨h, e⟩
        · exact .inr e
        · exact absurd h hc
        · exact .inl e
      cases b with
      | true =>
        unfold altL
        rw [var_nz _ (by grind : -c ≠ 0), sg_negate]
        have := (chg_alt l (sg c) hs false).1
        simp at this ⊢; omega
      | false =>
        unfold altL
        rw [var_nz _ hc]
        have := (chg_alt l (sg c) hs true).1
        simp at this ⊢; omega
def prodL : List Rat → List Rat
  | [] => [1]
  | e :: l => mulL e 0 (prodL l)
theorem mulL_length (r p : Rat) : ∀ l, (mulL r p l).length = l.length + 1
  | [] => rfl
  | c :: l => by unfold mulL; simp [mulL_length r c l]
theorem prodL_length : ∀ l, (prodL l).length = l.length + 1
  | [] => rfl
  | e :: l => by unfold prodL; rw [mulL_length, prodL_length l]; rfl
theorem mulL_last (r p : Rat) : ∀ l, l ≠ [] → (mulL r p l).getLast? = l.getLast?
  | [], h => absurd rfl h
  | [c], _ => by simp [mulL]
  | c :: d :: l, _ => by
    have := mulL_last r c (d :: l) (by simp)
    unfold mulL
    rw [List.getLast?_cons_cons]
    have h2 : mulL r c (d :: l) ≠ [] := by simp [mulL]
    cases hm : mulL r c (d :: l) with
    | nil => exact absurd hm h2
    | cons x y => rw [List.getLast?_cons_cons, ← hm, this]
theorem prodL_ne : ∀ l, prodL l ≠ [] := fun l h => by have := prodL_length l; rw [h] at this; simp at this
theorem prodL_last : ∀ l, (prodL l).getLast? = some 1
  | [] => rfl
  | e :: l => by unfold prodL; rw [mulL_last _ _ _ (prodL_ne l)]; exact prodL_last l
theorem prodL_nz (l : List Rat) : ∃ q ∈ prodL l, q ≠ 0 := ⟨1, List.mem_of_getLast? (prodL_last l), by decide⟩
theorem mulL_zero : ∀ (p : Rat) (l : List Rat), mulL 0 p l = p :: l
  | p, [] => rfl
  | p, c :: l => by unfold mulL; rw [mulL_zero]; congr 1; grind
theorem altL_mul (r : Rat) : ∀ (l : List Rat) (p : Rat), altL false (mulL r p l) = (mulL (-r) (-p) (altL false l)).map (fun x => -x) ∧ altL true (mulL r p l) = (mulL (-r) p (altL true l)).map (fun x => -x)
  | [], p => by simp [mulL, altL, Rat.neg_neg]
  | c :: l, p => by
    obtain ⟨h1, h2⟩ := altL_mul r l c
    constructor
    · show (p - r * c) :: altL true (mulL r c l) = (-(-p - -r * c)) :: (mulL (-r) c (altL true l)).map (fun x => -x)
      rw [h2]; congr 1; grind
    · show -(p - r * c) :: altL false (mulL r c l) = (-(p - -r * -c)) :: (mulL (-r) (-c) (altL false l)).map (fun x => -x)
      rw [h1]; congr 1; grind
theorem chg_neg : ∀ (l : List Rat) (s : Int), chg (-s) (l.map (fun x => -x)) = chg s l
  | [], s => rfl
  | c :: l, s => by
    have i1 := chg_neg l s
    have i2 := chg_neg l (-s)
    simp only [List.map_cons, chg, sg_negate]
    rw [i1, i2]
    by_cases h : sg c = -s
    · rw [if_pos h, if_pos (by omega)]
    · rw [if_neg h, if_neg (by omega)]
theorem var_neg : ∀ l : List Rat, var (l.map (fun x => -x)) = var l
  | [] => rfl
  | c :: l => by
    by_cases hc : c = 0
    · subst hc; simp only [List.map_cons]; rw [show (-0 : Rat) = 0 by decide, var_zero, var_zero]; exact var_neg l
    · simp only [List.map_cons]; rw [var_nz _ hc, var_nz _ (by grind : -c ≠ 0), sg_negate, chg_neg]
theorem mulL_comm (a b : Rat) : ∀ (l : List Rat) (p0 p : Rat), mulL a (p0 - b * p) (mulL b p l) = mulL b (p0 - a * p) (mulL a p l)
  | [], p0, p => by simp only [mulL]; congr 1; grind
  | c :: l, p0, p => by
    simp only [mulL]
    rw [mulL_comm a b l p c]; congr 1; grind
theorem mulL_comm0 (a b : Rat) (l : List Rat) : mulL a 0 (mulL b 0 l) = mulL b 0 (mulL a 0 l) := by
  have := mulL_comm a b l 0 0
  rw [show (0 : Rat) - b * 0 = 0 by grind, show (0 : Rat) - a * 0 = 0 by grind] at this
  exact this
theorem prodL_perm {a b : List Rat} (h : a.Perm b) : prodL a = prodL b := by
  induction h with
  | nil => rfl
  | cons x _ ih => unfold prodL; rw [ih]
  | swap x y l => unfold prodL; simp only [prodL]; exact mulL_comm0 _ _ _
  | trans _ _ h1 h2 => exact h1.trans h2
theorem prodL_pos : ∀ (a b : List Rat), (∀ e ∈ a, 0 < e) → a.length ≤ var (prodL (a ++ b))
  | [], b, _ => by simp
  | e :: a, b, h => by
    have ih := prodL_pos a b (fun x hx => h x (by simp [hx]))
    have := var_mul (h e (by simp)) (prodL (a ++ b)) (prodL_nz _)
    show (e :: a).length ≤ var (mulL e 0 (prodL (a ++ b)))
    simp; omega
theorem var_pos (l : List Rat) : (l.filter (fun e => decide (0 < e))).length ≤ var (prodL l) := by
  have hp := List.filter_append_perm (fun e => decide (0 < e)) l
  rw [← prodL_perm hp]
  exact prodL_pos _ _ (fun e he => by simpa using (List.mem_filter.1 he).2)
theorem prodL_alt : ∀ l : List Rat, altL false (prodL l) = prodL (l.map (fun x => -x)) ∨ altL false (prodL l) = (prodL (l.map (fun x => -x))).map (fun x => -x)
  | [] => by simp [prodL, altL]
  | e :: l => by
    have h := (altL_mul e (prodL l) 0).1
    have key : ∀ (x : List Rat), mulL (-e) 0 (x.map (fun x => -x)) = (mulL (-e) 0 x).map (fun x => -x) := by
      have : ∀ (x : List Rat) (p : Rat), mulL (-e) (-p) (x.map (fun x => -x)) = (mulL (-e) p x).map (fun x => -x) := by
        intro x
        induction x with
        | nil => intro p; simp [mulL]
        | cons c x ih => intro p; simp only [mulL, List.map_cons, ih]; congr 1; grind
      intro x; have := this x 0; simpa using this
    have e0 : (-0 : Rat) = 0 := by decide
    rw [e0] at h
    rcases prodL_alt l with h1 | h1
    · right; simp only [prodL, List.map_cons]; rw [h, h1]
    · left; simp only [prodL, List.map_cons]; rw [h, h1, key, List.map_map]
      conv => rhs; rw [← List.map_id (mulL (-e) 0 _)]
      congr 1; funext x; simp [Rat.neg_neg]
theorem var_negs (l : List Rat) : (l.filter (fun e => decide (e < 0))).length ≤ var (altL false (prodL l)) := by
  have h := var_pos (l.map (fun x => -x))
  have e : ((l.map (fun x => -x)).filter (fun e => decide (0 < e))).length = (l.filter (fun e => decide (e < 0))).length := by
    rw [List.filter_map, List.length_map]; congr 2; funext x
    simp only [Function.comp]
    exact decide_eq_decide.2 (by grind)
  rcases prodL_alt l with h1 | h1
  · rw [h1, ← e]; exact h
  · rw [h1, var_neg, ← e]; exact h
theorem mulL_head {r : Rat} (hr : r ≠ 0) : ∀ l : List Rat, (∃ q ∈ l, q ≠ 0) → zer (mulL r 0 l) = zer l
  | [], h => by simp at h
  | c :: l, h => by
    unfold mulL zer
    by_cases hc : c = 0
    · subst hc
      rw [if_pos (by grind), if_pos rfl, mulL_head hr l]
      obtain ⟨q, hq, hn⟩ := h
      simp at hq
      rcases hq with rfl | hq
      · exact absurd rfl hn
      · exact ⟨q, hq, hn⟩
    · rw [if_neg (by have := mul_nz hr hc; grind), if_neg hc]
theorem zer_prod : ∀ l : List Rat, zer (prodL l) = (l.filter (fun e => decide (e = 0))).length
  | [] => by simp [prodL, zer]
  | e :: l => by
    unfold prodL
    by_cases he : e = 0
    · subst he; rw [mulL_zero]; simp [zer, zer_prod l]
    · rw [mulL_head he _ (prodL_nz l), zer_prod l]; simp [he]
theorem three (l : List Rat) : (l.filter (fun e => decide (0 < e))).length + (l.filter (fun e => decide (e < 0))).length + (l.filter (fun e => decide (e = 0))).length = l.length := by
  induction l with
  | nil => rfl
  | cons e l ih =>
    simp only [List.filter_cons]
    rcases sg_cases e with ⟨h, _⟩ | ⟨h, _⟩ | ⟨h, _⟩
    · simp [h, show ¬ (0 < e) by grind, show ¬ (e = 0) by grind]; omega
    · subst h; simp; omega
    · simp [h, show ¬ (e < 0) by grind, show ¬ (e = 0) by grind]; omega
theorem var_prod (l : List Rat) : var (prodL l) = (l.filter (fun e => decide (0 < e))).length := by
  have h1 := var_pos l
  have h2 := var_negs l
  have h3 := var_alt (prodL l) false (prodL_nz l)
  have h4 := zer_prod l
  have h5 := three l
  have h6 := prodL_length l
  omega
end Go.Proofs.YtldokelpolbnnaaGreatDoor
end
section
namespace Go.Proofs.YtldokelpolbnnaaGreatDoor
def gR (l : List Rat) (i : Nat) : Rat := l.getD i 0
def gM (M : List (List Rat)) (i : Nat) : List Rat := M.getD i []
def diagGo (c : Rat) : Nat → Nat → List (List Rat) → List (List Rat)
  | 0, _, M => M
  | f + 1, i, M => diagGo c f (i + 1) (M.set i ((gM M i).set i (gR (gM M i) i + c)))
def sumGo (row : List Rat) (M : List (List Rat)) (j : Nat) : Nat → Nat → Rat → Rat
  | 0, _, s => s
  | f + 1, m, s => sumGo row M j f (m + 1) (s + gR row m * gR (gM M m) j)
def rowGo (row : List Rat) (M : List (List Rat)) (n : Nat) : Nat → Nat → List Rat → List Rat
  | 0, _, l => l
  | f + 1, j, l => rowGo row M n f (j + 1) (l ++ [sumGo row M j n 0 0])
def nextGo (A M : List (List Rat)) (n : Nat) : Nat → Nat → List (List Rat) → Rat → List (List Rat) × Rat
  | 0, _, N, t => (N, t)
  | f + 1, i, N, t => nextGo A M n f (i + 1) (N ++ [rowGo (gM A i) M n n 0 []]) (t + gR (rowGo (gM A i) M n n 0 []) i)
def charGo (A : List (List Rat)) (n : Nat) : Nat → Nat → List (List Rat) → List Rat → List Rat
  | 0, _, _, out => out
  | f + 1, k, M, out => charGo A n f (k + 1) (nextGo A (diagGo (gR out 0) n 0 M) n n 0 [] 0).1 ((nextGo A (diagGo (gR out 0) n 0 M) n n 0 [] 0).2 / ((-(k : Int) : Int) : Rat) :: out)
def charL (A : List (List Rat)) : List Rat := charGo A A.length A.length 1 (List.replicate A.length (List.replicate A.length 0)) [1]
def horGo (x : Rat) (i : Nat) : Nat → List Rat → List Rat
  | 0, l => l
  | k + 1, l => if k < i then l else horGo x i k (l.set k (gR l k + x * gR l (k + 1)))
def shiftGo (x : Rat) : Nat → Nat → List Rat → List Rat
  | 0, _, l => l
  | f + 1, i, l => shiftGo x f (i + 1) (horGo x i (l.length - 1) l)
def shiftL (x : Rat) (p : List Rat) : List Rat := shiftGo x p.length 0 p
def lessL (p : List Rat) (x : Rat) : Int := (p.length : Int) - 1 - (zer (shiftL x p) : Int) - (var (shiftL x p) : Int)
def equalL (p : List Rat) (x : Rat) : Nat := zer (shiftL x p)
theorem char1 (a : Rat) : charL [[a]] = [-a, 1] := by
  simp [charL, charGo, nextGo, rowGo, sumGo, diagGo, gR, gM]
  grind
theorem char2 (a b c d : Rat) : charL [[a, b], [c, d]] = [a * d - b * c, -a - d, 1] := by
  simp [charL, charGo, nextGo, rowGo, sumGo, diagGo, gR, gM]
  grind
theorem char3 (a b c d e f g h i : Rat) : charL [[a, b, c], [d, e, f], [g, h, i]] = [-(a * (e * i - f * h) - b * (d * i - f * g) + c * (d * h - e * g)), a * e - b * d + a * i - c * g + e * i - f * h, -a - e - i, 1] := by
  simp [charL, charGo, nextGo, rowGo, sumGo, diagGo, gR, gM]
  grind
theorem shift3 (x a b c d : Rat) : shiftL x [a, b, c, d] = [a + x * b + x * x * c + x * x * x * d, b + 2 * x * c + 3 * x * x * d, c + 3 * x * d, d] := by
  simp [shiftL, shiftGo, horGo, gR]
  grind
theorem shift2 (x a b c : Rat) : shiftL x [a, b, c] = [a + x * b + x * x * c, b + 2 * x * c, c] := by
  simp [shiftL, shiftGo, horGo, gR]
  grind
theorem shift1 (x a b : Rat) : shiftL x [a, b] = [a + x * b, b] := by
  simp [shiftL, shiftGo, horGo, gR]
end Go.Proofs.YtldokelpolbnnaaGreatDoor
end
section
namespace Go.Proofs.YtldokelpolbnnaaGreatDoor
theorem shiftP1 (x a : Rat) : shiftL x (prodL [a]) = prodL [a - x] := by
  simp [shiftL, shiftGo, horGo, gR, prodL, mulL]; grind
theorem shiftP2 (x a b : Rat) : shiftL x (prodL [a, b]) = prodL [a - x, b - x] := by
  simp [shiftL, shiftGo, horGo, gR, prodL, mulL]; grind
theorem shiftP3 (x a b c : Rat) : shiftL x (prodL [a, b, c]) = prodL [a - x, b - x, c - x] := by
  simp [shiftL, shiftGo, horGo, gR, prodL, mulL]; grind
theorem shiftP (x : Rat) (d : List Rat) (h0 : d ≠ []) (h : d.length ≤ 3) : shiftL x (prodL d) = prodL (d.map (· - x)) := by
  match d, h0, h with
  | [a], _, _ => exact shiftP1 x a
  | [a, b], _, _ => exact shiftP2 x a b
  | [a, b, c], _, _ => exact shiftP3 x a b c
def SqN (n : Nat) (B : List (List Rat)) : Prop := B.length = n ∧ ∀ r ∈ B, r.length = n
theorem sq1 {B : List (List Rat)} (h : SqN 1 B) : ∃ a, B = [[a]] := by
  obtain ⟨h1, h2⟩ := h
  obtain ⟨r, rfl⟩ := List.length_eq_one_iff.1 h1
  obtain ⟨a, rfl⟩ := List.length_eq_one_iff.1 (h2 r (by simp))
  exact ⟨a, rfl⟩
theorem len2 {α : Type} {l : List α} (h : l.length = 2) : ∃ a b, l = [a, b] := by
  match l, h with
  | [a, b], _ => exact ⟨a, b, rfl⟩
theorem len3 {α : Type} {l : List α} (h : l.length = 3) : ∃ a b c, l = [a, b, c] := by
  match l, h with
  | [a, b, c], _ => exact ⟨a, b, c, rfl⟩
theorem sq2 {B : List (List Rat)} (h : SqN 2 B) : ∃ a b c d, B = [[a, b], [c, d]] := by
  obtain ⟨h1, h2⟩ := h
  obtain ⟨r, s, rfl⟩ := len2 h1
  obtain ⟨a, b, rfl⟩ := len2 (h2 r (by simp))
  obtain ⟨c, d, rfl⟩ := len2 (h2 s (by simp))
  exact ⟨a, b, c, d, rfl⟩
theorem sq3 {B : List (List Rat)} (h : SqN 3 B) : ∃ a b c d e f g h i, B = [[a, b, c], [d, e, f], [g, h, i]] := by
  obtain ⟨h1, h2⟩ := h
  obtain ⟨r, s, t, rfl⟩ := len3 h1
  obtain ⟨a, b, c, rfl⟩ := len3 (h2 r (by simp))
  obtain ⟨d, e, f, rfl⟩ := len3 (h2 s (by simp))
  obtain ⟨g, h, i, rfl⟩ := len3 (h2 t (by simp))
  exact ⟨a, b, c, d, e, f, g, h, i, rfl⟩
end Go.Proofs.YtldokelpolbnnaaGreatDoor
end
section
namespace Go.Proofs.YtldokelpolbnnaaGreatDoor
def trimGo (p : List Rat) : Nat → Nat
  | 0 => 0
  | n + 1 => if gR p n = 0 then trimGo p n else n + 1
def trimL (p : List Rat) : List Rat := p.take (trimGo p p.length)
def derGo (p : List Rat) : Nat → Nat → List Rat → List Rat
  | 0, _, out => out
  | f + 1, i, out => derGo p f (i + 1) (out ++ [gR p i * (((i : Nat) : Int) : Rat)])
def derL (p : List Rat) : List Rat := derGo p (p.length - 1) 1 []
def subGo (q : List Rat) (f : Rat) (at' : Nat) : Nat → Nat → List Rat → List Rat
  | 0, _, R => R
  | k + 1, i, R => subGo q f at' k (i + 1) (R.set (at' + i) (gR R (at' + i) - f * gR q i))
def divGo (q : List Rat) : Nat → List Rat → List Rat → List Rat × List Rat
  | 0, Q, R => (Q, R)
  | n + 1, Q, R => divGo q n (Q.set n (gR R (n + q.length - 1) / gR q (q.length - 1))) (subGo q (gR R (n + q.length - 1) / gR q (q.length - 1)) n q.length 0 R)
def divL (p q : List Rat) : List Rat × List Rat := divGo q (p.length + 1 - q.length) (List.replicate (p.length + 1 - q.length) 0) p
def quoL (p q : List Rat) : List Rat := (divL p q).1
def remL (p q : List Rat) : List Rat := trimL (divL p q).2
def withinL (p : List Rat) (low high : Rat) : Int := lessL p high + (equalL p high : Int) - lessL p low - (equalL p low : Int)
end Go.Proofs.YtldokelpolbnnaaGreatDoor
end
