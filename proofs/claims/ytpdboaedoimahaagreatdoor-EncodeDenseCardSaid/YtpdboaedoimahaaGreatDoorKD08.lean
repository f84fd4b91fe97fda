/- Joined out of parts of one proof by a program: contracts of the functions that the statement reaches, and the plain facts behind them. -/
import Derived.Test.YtpdboaedoimahaaGreatDoorKD07
import Derived.RangeFuncSeq
import Derived.RangeFuncGives
import Derived.RangeFuncIn
import Derived.OrdersIn
import Derived.OwnWalkIn
set_option linter.unusedVariables false
set_option linter.unusedSimpArgs false
set_option linter.unusedSectionVars false
section
set_option linter.unusedSectionVars false
set_option linter.unusedVariables false
namespace Go.Proofs.YtpdboaedoimahaaGreatDoor
open Go.RowKit Go.MapKept
section
variable {P : Program} [Mixed P] {fn : Func} {Post : Spec} {st : List KI × S} {u m : PH}
theorem view_build {env : Operand → Value} {o : Op} {t : TypeId} {L : List (Nat × Value)} (h : viewOp P env o = .build t L) : ∃ ps : Array (Nat × Operand), o = .build t ps ∧ ps.toList.map (fun x => (x.1, env x.2)) = L := by
 cases o <;> simp only [viewOp] at h <;> try cases h
 any_goals ((repeat' split at h) <;> cases h; done)
 ·exact ⟨_, rfl, rfl⟩
theorem G.buildArr (t e : TypeId) (p q : Par) (h : stopV P (adv P st) = .build t [(0, parV p), (1, parV q)]) (hu : P.underlying t = some (.array 2 e)) (hs : szB P e = some 2) (hz : zeroB P t = some (.agg #[.int .i64 0, .string (mkS []), .int .i64 0, .string (mkS [])]))
  (k : G P fn Post (nx (adv P st) (.agg #[.int .i64 p.1, .string (mkS p.2), .int .i64 q.1, .string (mkS q.2)])) u m) : G P fn Post st u m := by
 refine G.ask h (by simp) (fun env o hview w hp => ?_) k
 obtain ⟨ps, e1, e2⟩ := view_build hview
 obtain ⟨dst, opp, type, pos, after, guard⟩ := o
 simp only at e1; subst e1
 have e3 : (ps.map fun x => (x.1, env x.2)).toList = [(0, parV p), (1, parV q)] := by rw [Array.toList_map]; exact e2
 simp only [execOp, Instr.build, Sem.run_bind, run_zeroB hz, Result.andThen_ok, run_underlying hu, run_sizeOf' hs, e3]
 rfl
end
def MapF {κ : Type} (enc : κ → Value) (K : κ → Prop) (u : PH) (o : Obj) (f : κ → Rat) (N : Nat) : Prop :=
 ∃ l : List (κ × Value), MapO enc o l ∧ (∀ p ∈ l, QP u p.2 (f p.1) ∧ K p.1 ∧ Sz (f p.1) 12) ∧ (∀ k, k ∉ l.map (·.1) → f k = 0) ∧ l.length ≤ N
section
variable {κ : Type} [DecidableEq κ] {enc : κ → Value} {K : κ → Prop} {u : PH} {o : Obj} {f : κ → Rat} {N : Nat}
theorem MapF.mono {u' : PH} (h : MapF enc K u o f N) (hl : PH.le u u') : MapF enc K u' o f N := by
 obtain ⟨l, h1, h2, h3, h4⟩ := h
 exact ⟨l, h1, fun p hp => ⟨(h2 p hp).1.mono hl, (h2 p hp).2⟩, h3, h4⟩
theorem MapF.up {N' : Nat} (h : MapF enc K u o f N) (hN : N ≤ N') : MapF enc K u o f N' := by
 obtain ⟨l, h1, h2, h3, h4⟩ := h
 exact ⟨l, h1, h2, h3, Nat.le_trans h4 hN⟩
theorem MapF.congr {f' : κ → Rat} (h : MapF enc K u o f N) (e : ∀ k, f k = f' k) : MapF enc K u o f' N := by
 rw [← funext e]; exact h
theorem MapF.empty : MapF enc K u (.map #[] 0) (fun _ => 0) 0 := ⟨[], MapO.empty, by simp, fun _ _ => rfl, Nat.le_refl _⟩
theorem MapF.put {o' : Obj} {a : κ} {x : Value} {q : Rat} {l : List (κ × Value)} (ho : MapO enc o l) (h2 : ∀ p ∈ l, QP u p.2 (f p.1) ∧ K p.1 ∧ Sz (f p.1) 12) (h3 : ∀ k, k ∉ l.map (·.1) → f k = 0) (h4 : l.length ≤ N)
  (h' : MapO enc o' (putK a x l)) (hx : QP u x q) (hk : K a) (hs : Sz q 12) : MapF enc K u o' (setF f a q) (N + 1) := by
 refine ⟨_, h', fun p hp => ?_, fun k hk => ?_, Nat.le_trans length_putK (by omega)⟩
 ·unfold setF
  rcases mem_putK ho.nodup hp with rfl | ⟨hp, hne⟩
  ·simp only [if_true]; exact ⟨hx, hk, hs⟩
  ·rw [if_neg hne]; exact h2 p hp
 ·rw [keys_putK, not_or] at hk
  unfold setF; rw [if_neg hk.1]; exact h3 k hk.2
end
def KT {κ : Type} (_ : κ) : Prop := True
def KO (k : Par × Par) : Prop := ¬ 0 < cmpP k.1 k.2
theorem KO.pair (p q : Par) : KO (pairP p q) := by
 unfold KO pairP
 have h1 := ordP.sym p q
 have h2 := ordP.sym q p
 by_cases h : 0 < cmpP p q
 ·rw [if_pos h]; simp only; omega
 ·rw [if_neg h]; exact h
def FulM (m' u : PH) (v : Value) (F : CF) (N : Nat) : Prop :=
 ∃ b a n c b' a' n' c' g1 g2 o1 o2, v = .agg #[.bool b, .slice a n c, .bool b', .slice a' n' c', .map (some g1), .map (some g2)] ∧ QP u (.agg #[.bool b, .slice a n c, .bool b', .slice a' n' c']) F.c ∧ g1 ≠ g2 ∧ m' = (PH.mt.upd g1 o1).upd g2 o2 ∧ MapF parV KT u o1 F.s N ∧ MapF prV KO u o2 F.t N
def FulP (u : PH) (v : Value) (F : CF) (N : Nat) : Prop :=
 ∃ b a n c b' a' n' c' g1 g2 o1 o2, v = .agg #[.bool b, .slice a n c, .bool b', .slice a' n' c', .map (some g1), .map (some g2)] ∧ QP u (.agg #[.bool b, .slice a n c, .bool b', .slice a' n' c']) F.c ∧ u g1 = some o1 ∧ u g2 = some o2 ∧ MapF parV KT u o1 F.s N ∧ MapF prV KO u o2 F.t N
theorem FulP.mono {u u' : PH} {v : Value} {F : CF} {N : Nat} (h : FulP u v F N) (hl : PH.le u u') : FulP u' v F N := by
 obtain ⟨b, a, n, c, b', a', n', c', g1, g2, o1, o2, e, h1, h2, h3, h4, h5⟩ := h
 exact ⟨b, a, n, c, b', a', n', c', g1, g2, o1, o2, e, h1.mono hl, hl _ _ h2, hl _ _ h3, h4.mono hl, h5.mono hl⟩
theorem FulM.grow {m' u u' : PH} {v : Value} {F : CF} {N : Nat} (h : FulM m' u v F N) (hl : PH.le u u') : FulM m' u' v F N := by
 obtain ⟨b, a, n, c, b', a', n', c', g1, g2, o1, o2, e, h1, h2, h3, h4, h5⟩ := h
 exact ⟨b, a, n, c, b', a', n', c', g1, g2, o1, o2, e, h1.mono hl, h2, h3, h4.mono hl, h5.mono hl⟩
theorem FulM.give {m' u u' : PH} {v : Value} {F : CF} {N : Nat} (h : FulM m' u v F N) (hl : PH.le u u') (hm : PH.le m' u') : FulP u' v F N := by
 obtain ⟨b, a, n, c, b', a', n', c', g1, g2, o1, o2, e, h1, h2, rfl, h4, h5⟩ := h
 exact ⟨b, a, n, c, b', a', n', c', g1, g2, o1, o2, e, h1.mono hl, hm _ _ (by rw [upd_ne _ _ h2, upd_same]), hm _ _ (upd_same _ _ _), h4.mono hl, h5.mono hl⟩
theorem FulM.congr {m' u : PH} {v : Value} {F F' : CF} {N N' : Nat} (h : FulM m' u v F N) (e : F = F') (hN : N ≤ N') : FulM m' u v F' N' := by
 subst e
 obtain ⟨b, a, n, c, b', a', n', c', g1, g2, o1, o2, e, h1, h2, h3, h4, h5⟩ := h
 exact ⟨b, a, n, c, b', a', n', c', g1, g2, o1, o2, e, h1, h2, h3, h4.up hN, h5.up hN⟩
theorem fulP_opn {u : PH} {v : Value} {F : CF} {N : Nat} (h : FulP u v F N) : ∃ b a n c b' a' n' c' g1 g2, v = .agg #[.bool b, .slice a n c, .bool b', .slice a' n' c', .map (some g1), .map (some g2)] := by
 obtain ⟨b, a, n, c, b', a', n', c', g1, g2, o1, o2, e, _⟩ := h
 exact ⟨b, a, n, c, b', a', n', c', g1, g2, e⟩
theorem fulM_opn {m' u : PH} {v : Value} {F : CF} {N : Nat} (h : FulM m' u v F N) : ∃ b a n c b' a' n' c' g1 g2, v = .agg #[.bool b, .slice a n c, .bool b', .slice a' n' c', .map (some g1), .map (some g2)] := by
 obtain ⟨b, a, n, c, b', a', n', c', g1, g2, o1, o2, e, _⟩ := h
 exact ⟨b, a, n, c, b', a', n', c', g1, g2, e⟩
theorem refEmpty0 {u : PH} {n : Int} (h1 : -9223372036854775807 ≤ n) (h2 : n ≤ 9223372036854775807) : Contract Tryz.prog 57 [.int .i64 n] u PH.mt fun v u' m' => FulM m' u' v ⟨(n : Rat), fun _ => 0, fun _ => 0⟩ 0 := by
 refine Contract.of Tryz.func57 (by kernel_rfl) (by kernel_rfl) ?_
 refine G.call0 _ _ (by kernel_rfl) Tryz.call62 (refOf0 h1 h2) ?_
 intro v1 u1 l1 k1
 obtain ⟨b, a, nn, c, a', n', c', rfl, _⟩ := k1.opn
 refine G.mapMk (by kernel_rfl) ?_
 intro g1 hm1 hu1
 refine G.mapMk (by kernel_rfl) ?_
 intro g2 hm2 hu2
 have hne : g1 ≠ g2 := fun e => by subst e; rw [upd_same] at hm2; cases hm2
 exact G.ret (.agg #[.bool b, .slice a nn c, .bool false, .slice a' n' c', .map (some g1), .map (some g2)]) (by kernel_rfl) ⟨b, a, nn, c, false, a', n', c', g1, g2, _, _, rfl, k1, hne, rfl, MapF.empty, MapF.empty⟩
set_option maxHeartbeats 1000000 in
theorem refSumM0 {u : PH} {g : Nat} {g2 : Option Nat} {o : Obj} {f : Par → Rat} {N : Nat} {a : Par} {x : Value} {q : Rat} {y1 y3 : Bool} {y2 y4 : SlI} (h : MapF parV KT u o f N) (hx : QP u x q) (hq : SB q) (hf : SB (f a)) (hs : SB (q + f a)) :
  Contract Tryz.prog 115 [.agg #[.bool y1, .slice y2.1 y2.2.1 y2.2.2, .bool y3, .slice y4.1 y4.2.1 y4.2.2, .map (some g), .map g2], parV a, x] u (blk1 g o) fun v u' m' => ∃ o', m' = blk1 g o' ∧ MapF parV KT u' o' (setF f a (q + f a)) (N + 1) := by
 obtain ⟨l, ho, h2, h3, h4⟩ := id h
 obtain ⟨b, aa, n, c, a', n', c', rfl, _⟩ := hx.opn
 refine Contract.of Tryz.func115 (by kernel_rfl) (by kernel_rfl) ?_
 cases hx' : assoc a l with
 | none =>
  have hf0 : f a = 0 := h3 a (assoc_none.1 hx')
  have e0 : q + f a = q := by rw [hf0]; grind
  rw [e0] at hs ⊢
  refine G.mapNot (et := 124) keyPar fz g o l a (by kernel_rfl) (by kernel_rfl) (.inr (blk1_same _ _)) ho hx' ?_
  refine G.mapPut (et := 124) keyPar g o l a (.agg #[.bool b, .slice aa n c, .bool false, .slice a' n' c']) (by kernel_rfl) (by kernel_rfl) (blk1_same _ _) ho ?_
  intro o' ho'
  exact G.ret (.tuple #[]) (by kernel_rfl) ⟨o', upd_upd _ _ _ _, MapF.put ho h2 h3 h4 ho' hx trivial hs.sz⟩
 | some xv =>
  obtain ⟨hr, _, _⟩ := h2 _ (assoc_mem hx')
  obtain ⟨b1, a1, n1, c1, a1', n1', c1', rfl, _⟩ := hr.opn
  refine G.mapHas (et := 124) keyPar fz g o l a (.agg #[.bool b1, .slice a1 n1 c1, .bool false, .slice a1' n1' c1']) (by kernel_rfl) (by kernel_rfl) (.inr (blk1_same _ _)) ho hx' ?_
  refine G.call0 _ _ (by kernel_rfl) Tryz.call113 (refAdd0 hx hr (hq.sz.mono (by omega)) (hf.sz.mono (by omega))) ?_
  intro v1 u1 l1 k1
  obtain ⟨b2, a2, n2, c2, a2', n2', c2', rfl, _⟩ := k1.opn
  refine G.mapPut (et := 124) keyPar g o l a (.agg #[.bool b2, .slice a2 n2 c2, .bool false, .slice a2' n2' c2']) (by kernel_rfl) (by kernel_rfl) (blk1_same _ _) ho ?_
  intro o' ho'
  exact G.ret (.tuple #[]) (by kernel_rfl) ⟨o', upd_upd _ _ _ _, MapF.put ho (fun p hp => ⟨(h2 p hp).1.mono l1, (h2 p hp).2⟩) h3 h4 ho' k1 trivial hs.sz⟩
set_option maxHeartbeats 1000000 in
theorem refProdM0 {u : PH} {g : Nat} {g1 : Option Nat} {o : Obj} {f : Par × Par → Rat} {N : Nat} {p r : Par} {x : Value} {q : Rat} {y1 y3 : Bool} {y2 y4 : SlI} (h : MapF prV KO u o f N) (hx : QP u x q) (hq : SB q) (hf : SB (f (pairP p r))) (hs : SB (q + f (pairP p r))) :
  Contract Tryz.prog 116 [.agg #[.bool y1, .slice y2.1 y2.2.1 y2.2.2, .bool y3, .slice y4.1 y4.2.1 y4.2.2, .map g1, .map (some g)], parV p, parV r, x] u (blk1 g o) fun v u' m' => ∃ o', m' = blk1 g o' ∧ MapF prV KO u' o' (setF f (pairP p r) (q + f (pairP p r))) (N + 1) := by
 obtain ⟨b, aa, n, c, a', n', c', rfl, _⟩ := hx.opn
 refine Contract.of Tryz.func116 (by kernel_rfl) (by kernel_rfl) ?_
 have ko := KO.pair p r
 by_cases hlt : cmpP r p < 0
 ·have he : pairP p r = (r, p) := by unfold pairP; rw [if_pos ((ordP.sym r p).1 hlt)]
  rw [he] at hf hs ko ⊢
  refine G.call0 _ _ (by kernel_rfl) Tryz.call109 (refLess0 r p true (decide_eq_true hlt)) ?_
  rintro v0 u0 l0 rfl
  obtain ⟨l, ho, h2, h3, h4⟩ := h.mono l0
  have hx := hx.mono l0
  cases hx' : assoc (r, p) l with
  | none =>
   have hf0 : f (r, p) = 0 := h3 _ (assoc_none.1 hx')
   have e0 : q + f (r, p) = q := by rw [hf0]; grind
   rw [e0] at hs ⊢
   refine G.buildArr 182 55 r p (by kernel_rfl) (by kernel_rfl) (by kernel_rfl) (by kernel_rfl) ?_
   refine G.mapNot (et := 124) keyArr fz g o l (r, p) (by kernel_rfl) (by kernel_rfl) (.inr (blk1_same _ _)) ho hx' ?_
   refine G.mapPut (et := 124) keyArr g o l (r, p) (.agg #[.bool b, .slice aa n c, .bool false, .slice a' n' c']) (by kernel_rfl) (by kernel_rfl) (blk1_same _ _) ho ?_
   intro o' ho'
   exact G.ret (.tuple #[]) (by kernel_rfl) ⟨o', upd_upd _ _ _ _, MapF.put ho h2 h3 h4 ho' hx ko hs.sz⟩
  | some xv =>
   obtain ⟨hr, _, _⟩ := h2 _ (assoc_mem hx')
   obtain ⟨b1, a1, n1, c1, a1', n1', c1', rfl, _⟩ := hr.opn
   refine G.buildArr 182 55 r p (by kernel_rfl) (by kernel_rfl) (by kernel_rfl) (by kernel_rfl) ?_
   refine G.mapHas (et := 124) keyArr fz g o l (r, p) (.agg #[.bool b1, .slice a1 n1 c1, .bool false, .slice a1' n1' c1']) (by kernel_rfl) (by kernel_rfl) (.inr (blk1_same _ _)) ho hx' ?_
   refine G.call0 _ _ (by kernel_rfl) Tryz.call113 (refAdd0 hx hr (hq.sz.mono (by omega)) (hf.sz.mono (by omega))) ?_
   intro v1 u1 l1 k1
   obtain ⟨b2, a2, n2, c2, a2', n2', c2', rfl, _⟩ := k1.opn
   refine G.mapPut (et := 124) keyArr g o l (r, p) (.agg #[.bool b2, .slice a2 n2 c2, .bool false, .slice a2' n2' c2']) (by kernel_rfl) (by kernel_rfl) (blk1_same _ _) ho ?_
   intro o' ho'
   exact G.ret (.tuple #[]) (by kernel_rfl) ⟨o', upd_upd _ _ _ _, MapF.put ho (fun p hp => ⟨(h2 p hp).1.mono l1, (h2 p hp).2⟩) h3 h4 ho' k1 ko hs.sz⟩
 ·have he : pairP p r = (p, r) := by unfold pairP; rw [if_neg (fun e => hlt ((ordP.sym r p).2 e))]
  rw [he] at hf hs ko ⊢
  refine G.call0 _ _ (by kernel_rfl) Tryz.call109 (refLess0 r p false (decide_eq_false hlt)) ?_
  rintro v0 u0 l0 rfl
  obtain ⟨l, ho, h2, h3, h4⟩ := h.mono l0
  have hx := hx.mono l0
  cases hx' : assoc (p, r) l with
  | none =>
   have hf0 : f (p, r) = 0 := h3 _ (assoc_none.1 hx')
   have e0 : q + f (p, r) = q := by rw [hf0]; grind
   rw [e0] at hs ⊢
   refine G.buildArr 182 55 p r (by kernel_rfl) (by kernel_rfl) (by kernel_rfl) (by kernel_rfl) ?_
   refine G.mapNot (et := 124) keyArr fz g o l (p, r) (by kernel_rfl) (by kernel_rfl) (.inr (blk1_same _ _)) ho hx' ?_
   refine G.mapPut (et := 124) keyArr g o l (p, r) (.agg #[.bool b, .slice aa n c, .bool false, .slice a' n' c']) (by kernel_rfl) (by kernel_rfl) (blk1_same _ _) ho ?_
   intro o' ho'
   exact G.ret (.tuple #[]) (by kernel_rfl) ⟨o', upd_upd _ _ _ _, MapF.put ho h2 h3 h4 ho' hx ko hs.sz⟩
  | some xv =>
   obtain ⟨hr, _, _⟩ := h2 _ (assoc_mem hx')
   obtain ⟨b1, a1, n1, c1, a1', n1', c1', rfl, _⟩ := hr.opn
   refine G.buildArr 182 55 p r (by kernel_rfl) (by kernel_rfl) (by kernel_rfl) (by kernel_rfl) ?_
   refine G.mapHas (et := 124) keyArr fz g o l (p, r) (.agg #[.bool b1, .slice a1 n1 c1, .bool false, .slice a1' n1' c1']) (by kernel_rfl) (by kernel_rfl) (.inr (blk1_same _ _)) ho hx' ?_
   refine G.call0 _ _ (by kernel_rfl) Tryz.call113 (refAdd0 hx hr (hq.sz.mono (by omega)) (hf.sz.mono (by omega))) ?_
   intro v1 u1 l1 k1
   obtain ⟨b2, a2, n2, c2, a2', n2', c2', rfl, _⟩ := k1.opn
   refine G.mapPut (et := 124) keyArr g o l (p, r) (.agg #[.bool b2, .slice a2 n2 c2, .bool false, .slice a2' n2' c2']) (by kernel_rfl) (by kernel_rfl) (blk1_same _ _) ho ?_
   intro o' ho'
   exact G.ret (.tuple #[]) (by kernel_rfl) ⟨o', upd_upd _ _ _ _, MapF.put ho (fun p hp => ⟨(h2 p hp).1.mono l1, (h2 p hp).2⟩) h3 h4 ho' k1 ko hs.sz⟩
end Go.Proofs.YtpdboaedoimahaaGreatDoor
end
section
set_option linter.unusedSectionVars false
set_option linter.unusedVariables false
namespace Go.Proofs.YtpdboaedoimahaaGreatDoor
open Go.RowKit Go.MapKept
theorem intValidE0 {u : PH} : Fn0 Tryz.prog 125 [.string (mkS [])] u fun v _ => v = .bool false := by
 refine Fn0.of Tryz.func125 (by kernel_rfl) (by kernel_rfl) ?_
 refine G.eqSF [] [48] (by kernel_rfl) (by decide) ?_
 refine G.call0 _ _ (by kernel_rfl) Tryz.call176 (trimPrefix0 (s := []) (p := [45])) ?_
 rintro v1 u1 l1 rfl
 refine G.eqST (Lib.trimPrefix [] [45]) [] (by kernel_rfl) rfl ?_
 exact G.ret (.bool false) (by kernel_rfl) ⟨rfl, rfl⟩
theorem ratValidE0 {u : PH} : Fn0 Tryz.prog 66 [.string (mkS [])] u fun v _ => v = .bool false := by
 refine Fn0.of Tryz.func66 (by kernel_rfl) (by kernel_rfl) ?_
 refine G.call0 _ _ (by kernel_rfl) Tryz.call124 (cutN (T := []) (by simp)) ?_
 rintro v1 u1 l1 rfl
 refine G.call0 _ _ (by kernel_rfl) Tryz.call125 intValidE0 ?_
 rintro v2 u2 l2 rfl
 refine G.call0 _ _ (by kernel_rfl) Tryz.call125 intValidE0 ?_
 rintro v3 u3 l3 rfl
 exact G.ret (.bool false) (by kernel_rfl) ⟨rfl, rfl⟩
theorem partsE0 {u : PH} : Fn0 Tryz.prog 146 [.string (mkS [])] u fun v _ => v = .tuple #[.string (mkS []), .string (mkS []), .bool false] := by
 refine Fn0.of Tryz.func146 (by kernel_rfl) (by kernel_rfl) ?_
 refine G.call0 _ _ (by kernel_rfl) Tryz.call66 ratValidE0 ?_
 rintro v1 u1 l1 rfl
 exact G.ret (.tuple #[.string (mkS []), .string (mkS []), .bool false]) (by kernel_rfl) ⟨rfl, rfl⟩
theorem intSmallE0 {u : PH} : Fn0 Tryz.prog 147 [.string (mkS [])] u fun v _ => v = .tuple #[.int .i64 0, .bool false] := by
 refine Fn0.of Tryz.func147 (by kernel_rfl) (by kernel_rfl) ?_
 refine G.call0 _ _ (by kernel_rfl) Tryz.call125 intValidE0 ?_
 rintro v1 u1 l1 rfl
 exact G.ret (.tuple #[.int .i64 0, .bool false]) (by kernel_rfl) ⟨rfl, rfl⟩
theorem valueE0 {u : PH} {x : List UInt8 × Nat} (h1 : 1 ≤ x.2) (h3 : x.2 ≤ 3) : Fn0 Tryz.prog 82 [attV x, .string (mkS [])] u fun v _ => v = .bool true := by
 obtain ⟨s, k⟩ := x
 simp only at h1 h3
 refine Fn0.of Tryz.func82 (by kernel_rfl) (by kernel_rfl) ?_
 rcases (by omega : k = 1 ∨ k = 2 ∨ k = 3) with rfl | rfl | rfl
 ·refine G.eqlT ((1 : Nat) : Int) 1 (by kernel_rfl) (by omega) ?_
  refine G.eqST [] [] (by kernel_rfl) rfl ?_
  exact G.ret (.bool true) (by kernel_rfl) ⟨rfl, rfl⟩
 ·refine G.eqlF ((2 : Nat) : Int) 1 (by kernel_rfl) (by omega) ?_
  refine G.eqlT ((2 : Nat) : Int) 2 (by kernel_rfl) (by omega) ?_
  refine G.call0 _ _ (by kernel_rfl) Tryz.call146 partsE0 ?_
  rintro v1 u1 l1 rfl
  refine G.call0 _ _ (by kernel_rfl) Tryz.call147 intSmallE0 ?_
  rintro v2 u2 l2 rfl
  refine G.eqST [] [] (by kernel_rfl) rfl ?_
  exact G.ret (.bool true) (by kernel_rfl) ⟨rfl, rfl⟩
 ·refine G.eqlF ((3 : Nat) : Int) 1 (by kernel_rfl) (by omega) ?_
  refine G.eqlF ((3 : Nat) : Int) 2 (by kernel_rfl) (by omega) ?_
  refine G.eqlT ((3 : Nat) : Int) 3 (by kernel_rfl) (by omega) ?_
  refine G.eqST [] [] (by kernel_rfl) rfl ?_
  exact G.ret (.bool true) (by kernel_rfl) ⟨rfl, rfl⟩
theorem itoa_ne_nil {z : Int} : Lib.itoa z ≠ [] := by
 by_cases h : z < 0
 ·rw [itoa_neg h]; simp
 ·rw [Lib.itoa, if_neg h]; exact dec_ne_nil _
theorem valueK0 {u : PH} {s : List UInt8} {z : Int} (h : z.natAbs ≤ 1000000000) : Fn0 Tryz.prog 82 [attV (s, 1), .string (mkS (Lib.itoa z))] u fun v _ => v = .bool true := by
 refine Fn0.of Tryz.func82 (by kernel_rfl) (by kernel_rfl) ?_
 refine G.eqlT ((1 : Nat) : Int) 1 (by kernel_rfl) (by omega) ?_
 refine G.eqSF (Lib.itoa z) [] (by kernel_rfl) itoa_ne_nil ?_
 refine G.call0 _ _ (by kernel_rfl) Tryz.call145 (bounded0 h) ?_
 rintro v1 u1 l1 rfl
 exact G.ret (.bool true) (by kernel_rfl) ⟨rfl, rfl⟩
theorem valueC0 {u : PH} {s t : List UInt8} (h : wordB t = true) : Fn0 Tryz.prog 82 [attV (s, 3), .string (mkS t)] u fun v _ => v = .bool true := by
 refine Fn0.of Tryz.func82 (by kernel_rfl) (by kernel_rfl) ?_
 refine G.eqlF ((3 : Nat) : Int) 1 (by kernel_rfl) (by omega) ?_
 refine G.eqlF ((3 : Nat) : Int) 2 (by kernel_rfl) (by omega) ?_
 refine G.eqlT ((3 : Nat) : Int) 3 (by kernel_rfl) (by omega) ?_
 refine G.eqSF t [] (by kernel_rfl) (fun e => by rw [e] at h; cases h) ?_
 refine G.call0 _ _ (by kernel_rfl) Tryz.call131 (word0 h) ?_
 rintro v1 u1 l1 rfl
 exact G.ret (.bool true) (by kernel_rfl) ⟨rfl, rfl⟩
end Go.Proofs.YtpdboaedoimahaaGreatDoor
end
section
set_option linter.unusedSectionVars false
set_option linter.unusedVariables false
namespace Go.Proofs.YtpdboaedoimahaaGreatDoor
open Go.RowKit Go.MapKept
section rules
variable {P : Program} [Mixed P] {fn : Func} {Post : Spec} {st : List KI × S} {u m : PH}
theorem G.convBU (e : TypeId) (l : List UInt8) (b n c : Nat) (h : stopV P (adv P st) = .conv (some (.slice e)) (some .string) (.slice (some ⟨b, 0, none⟩) n c)) (he : P.underlying e = some (.int .u8)) (hn : n = l.length)
  (ha : ElsP u b 0 1 (bytesV l)) (k : G P fn Post (nx (adv P st) (.string (mkS l))) u m) : G P fn Post st u m := by
 refine G.ask h (by simp) (fun env o hview w hp => ?_) k
 obtain ⟨s, d, X, e1, e2, e3, e4⟩ := view_conv hview
 obtain ⟨dst, opp, type, pos, after, guard⟩ := o
 simp only at e1; subst e1
 have hm := (hp rfl).1
 subst hn
 have := run_convert_bytes_back (P := P) w s d e ⟨b, 0, none⟩ c l e3 he e4 (fun j hj => by
  have h1 := ha j (.int .u8 (l[j].toNat : Int)) (by simp [bytesV, hj])
  have h2 := (h1 0 (.int .u8 (l[j].toNat : Int)) (by simp [Value.cells])).cell hm
  rw [addr_add]; simpa using h2)
 simp [execOp, e2, this]
end rules
def letC (i : Nat) : UInt8 := UInt8.ofNat (97 + i)
theorem letC_nat {i : Nat} (h : i < 26) : (letC i).toNat = 97 + i := by
 unfold letC; rw [UInt8.toNat_ofNat']; omega
theorem letter0 {u : PH} {p : List UInt8} {i : Nat} (hi : i < 26) (hp : p.length ≤ 1000) : Fn0 Tryz.prog 25 [.string (mkS p), .int .i64 (i : Int)] u fun v _ => v = .string (mkS (p ++ [letC i])) := by
 refine Fn0.of Tryz.func25 (by kernel_rfl) (by kernel_rfl) ?_
 refine G.remZ (i : Int) 26 (i : Int) (by kernel_rfl) (by omega) (by omega) (by rw [Int.tmod_eq_emod_of_nonneg (by omega)]; omega) ?_
 refine G.add 97 (i : Int) ((97 + i : Nat) : Int) (by kernel_rfl) (by omega) (by omega) (by omega) ?_
 refine G.convI .i64 .u8 .i64 ((97 + i : Nat) : Int) ((97 + i : Nat) : Int) (by kernel_rfl) ?_ ?_
 ·simp only [IntKind.wrap, IntKind.signed, IntKind.bits]; simp; omega
 have hb : [Value.int .u8 ((97 + i : Nat) : Int)] = bytesV [letC i] := by unfold bytesV; rw [List.map_cons, letC_nat hi]; rfl
 refine G.buildU 5 1 1 (.int .u8 0) [.int .u8 ((97 + i : Nat) : Int)] (by kernel_rfl) (by rw [hb]; exact bytesV_ok _) rfl (by omega) (by simp) (by simp) ?_
 intro g u1 l1 e1
 rw [hb] at e1
 refine G.convBU 5 [letC i] g 1 1 (by kernel_rfl) (by kernel_rfl) rfl e1 ?_
 refine G.addS p [letC i] (by kernel_rfl) (by simp; omega) ?_
 exact G.ret _ (by kernel_rfl) ⟨rfl, rfl⟩
def ValOK (k : Nat) (s : List UInt8) : Prop := s = [] ∨ (k = 3 ∧ wordB s = true) ∨ (k = 1 ∧ ∃ z : Int, z.natAbs ≤ 1000000000 ∧ s = Lib.itoa z) ∨ (k = 2 ∧ ∃ q, SmR q ∧ s = ratT q)
def redB : List UInt8 := [114, 101, 100]
def greenB : List UInt8 := [103, 114, 101, 101, 110]
def blueB : List UInt8 := [98, 108, 117, 101]
theorem valOK_num {q : Rat} {s : List UInt8} (h : ratT q = s) (hq : SmR q) : ValOK 2 s := .inr (.inr (.inr ⟨rfl, q, hq, h.symm⟩))
theorem valOK_key {z : Int} {s : List UInt8} (h : Lib.itoa z = s) (hz : z.natAbs ≤ 1000000000) : ValOK 1 s := .inr (.inr (.inl ⟨rfl, z, hz, h.symm⟩))
set_option maxHeartbeats 1000000 in
theorem srcValue0 {u : PH} {s : Src} {ts : List Int} {k : Nat} {x : List UInt8 × Nat} (h : SrcOK u s ts) (hk : k ≤ s.n) (h1 : 1 ≤ x.2) (h3 : x.2 ≤ 3) :
  Contract Tryz.prog 46 [s.ptr, attV x] u (s.M k) fun v _ m' => ∃ (t : List UInt8) (k' : Nat), v = .string (mkS t) ∧ ValOK x.2 t ∧ k' ≤ s.n ∧ m' = s.M k' := by
 obtain ⟨nm, kd⟩ := x
 simp only at h1 h3 ⊢
 refine Contract.of Tryz.func46 (by kernel_rfl) (by kernel_rfl) ?_
 refine G.callA _ _ (by kernel_rfl) (by kernel_rfl) Tryz.call24 (mt_or _).symm (apart_mt _) (srcN0 (n := 9) h hk (by omega) (by omega)) ?_
 rintro v1 u1 m1 l1 ⟨r, k1, rfl, hr, hk1, rfl⟩ _
 rw [mt_or]
 by_cases h8 : r = 8
 ·refine G.eqlT (r : Int) 8 (by kernel_rfl) (by omega) ?_
  exact G.ret (.string (mkS [])) (by kernel_rfl) ⟨[], k1, rfl, .inl rfl, hk1, rfl⟩
 refine G.eqlF (r : Int) 8 (by kernel_rfl) (by omega) ?_
 by_cases hk3 : kd = 3
 ·subst hk3
  refine G.eqlT ((3 : Nat) : Int) 3 (by kernel_rfl) (by omega) ?_
  refine G.buildU 9 1 16 (.string (mkS [])) [.string (mkS redB), .string (mkS greenB), .string (mkS blueB)] (by kernel_rfl) (nmV_ok [redB, greenB, blueB]) rfl (by omega) (by simp) (by simp) ?_
  intro g u2 l2 e2
  obtain ⟨i, hi⟩ : ∃ i, i = r % 3 := ⟨_, rfl⟩
  have hi3 : i < 3 := by omega
  refine G.remZ (r : Int) 3 (i : Int) (by kernel_rfl) (by omega) (by omega) (by rw [Int.tmod_eq_emod_of_nonneg (by omega)]; omega) ?_
  refine G.addr g 0 3 3 i 1 (by kernel_rfl) hi3 ?_
  obtain ⟨t, ht, hw⟩ : ∃ t, ElP u2 g (0 + i * 1) (.string (mkS t)) ∧ wordB t = true := by
   rcases (by omega : i = 0 ∨ i = 1 ∨ i = 2) with h | h | h
   ·rw [h]; exact ⟨redB, e2 0 _ rfl, by decide +kernel⟩
   ·rw [h]; exact ⟨greenB, e2 1 _ rfl, by decide +kernel⟩
   ·rw [h]; exact ⟨blueB, e2 2 _ rfl, by decide +kernel⟩
  refine G.loadU none g (0 + i * 1) (.string (mkS t)) (by kernel_rfl) (by kernel_rfl) ht ?_
  exact G.ret (.string (mkS t)) (by kernel_rfl) ⟨t, k1, rfl, .inr (.inl ⟨rfl, hw⟩), hk1, rfl⟩
 refine G.eqlF (kd : Int) 3 (by kernel_rfl) (by omega) ?_
 by_cases hk2 : kd = 1
 ·subst hk2
  refine G.eqlT ((1 : Nat) : Int) 1 (by kernel_rfl) (by omega) ?_
  refine G.buildU 9 1 16 (.string (mkS [])) [.string (mkS [49]), .string (mkS [50]), .string (mkS [49, 48])] (by kernel_rfl) (nmV_ok [[49], [50], [49, 48]]) rfl (by omega) (by simp) (by simp) ?_
  intro g u2 l2 e2
  obtain ⟨i, hi⟩ : ∃ i, i = r % 3 := ⟨_, rfl⟩
  have hi3 : i < 3 := by omega
  refine G.remZ (r : Int) 3 (i : Int) (by kernel_rfl) (by omega) (by omega) (by rw [Int.tmod_eq_emod_of_nonneg (by omega)]; omega) ?_
  refine G.addr g 0 3 3 i 1 (by kernel_rfl) hi3 ?_
  obtain ⟨t, ht, hw⟩ : ∃ t, ElP u2 g (0 + i * 1) (.string (mkS t)) ∧ ValOK 1 t := by
   rcases (by omega : i = 0 ∨ i = 1 ∨ i = 2) with h | h | h
   ·rw [h]; exact ⟨[49], e2 0 _ rfl, valOK_key (z := 1) (by decide +kernel) (by decide)⟩
   ·rw [h]; exact ⟨[50], e2 1 _ rfl, valOK_key (z := 2) (by decide +kernel) (by decide)⟩
   ·rw [h]; exact ⟨[49, 48], e2 2 _ rfl, valOK_key (z := 10) (by decide +kernel) (by decide)⟩
  refine G.loadU none g (0 + i * 1) (.string (mkS t)) (by kernel_rfl) (by kernel_rfl) ht ?_
  exact G.ret (.string (mkS t)) (by kernel_rfl) ⟨t, k1, rfl, hw, hk1, rfl⟩
 refine G.eqlF (kd : Int) 1 (by kernel_rfl) (by omega) ?_
 obtain rfl : kd = 2 := by omega
 refine G.buildU 9 1 16 (.string (mkS [])) [.string (mkS [48]), .string (mkS [49]), .string (mkS [45, 50]), .string (mkS [49, 47, 50]), .string (mkS [51]), .string (mkS [53, 47, 51]), .string (mkS [49]), .string (mkS [50])] (by kernel_rfl) (nmV_ok [[48], [49], [45, 50], [49, 47, 50], [51], [53, 47, 51], [49], [50]]) rfl (by omega) (by simp) (by simp) ?_
 intro g u2 l2 e2
 refine G.addr g 0 8 8 r 1 (by kernel_rfl) (by omega) ?_
 obtain ⟨t, ht, hw⟩ : ∃ t, ElP u2 g (0 + r * 1) (.string (mkS t)) ∧ ValOK 2 t := by
  rcases (by omega : r = 0 ∨ r = 1 ∨ r = 2 ∨ r = 3 ∨ r = 4 ∨ r = 5 ∨ r = 6 ∨ r = 7) with h | h | h | h | h | h | h | h
  ·rw [h]; exact ⟨_, e2 0 _ rfl, valOK_num (q := 0) (by decide +kernel) ⟨by decide +kernel, by decide +kernel⟩⟩
  ·rw [h]; exact ⟨_, e2 1 _ rfl, valOK_num (q := 1) (by decide +kernel) ⟨by decide +kernel, by decide +kernel⟩⟩
  ·rw [h]; exact ⟨_, e2 2 _ rfl, valOK_num (q := -2) (by decide +kernel) ⟨by decide +kernel, by decide +kernel⟩⟩
  ·rw [h]; exact ⟨_, e2 3 _ rfl, valOK_num (q := 1 / 2) (by decide +kernel) ⟨by decide +kernel, by decide +kernel⟩⟩
  ·rw [h]; exact ⟨_, e2 4 _ rfl, valOK_num (q := 3) (by decide +kernel) ⟨by decide +kernel, by decide +kernel⟩⟩
  ·rw [h]; exact ⟨_, e2 5 _ rfl, valOK_num (q := 5 / 3) (by decide +kernel) ⟨by decide +kernel, by decide +kernel⟩⟩
  ·rw [h]; exact ⟨_, e2 6 _ rfl, valOK_num (q := 1) (by decide +kernel) ⟨by decide +kernel, by decide +kernel⟩⟩
  ·rw [h]; exact ⟨_, e2 7 _ rfl, valOK_num (q := 2) (by decide +kernel) ⟨by decide +kernel, by decide +kernel⟩⟩
 refine G.loadU none g (0 + r * 1) (.string (mkS t)) (by kernel_rfl) (by kernel_rfl) ht ?_
 exact G.ret (.string (mkS t)) (by kernel_rfl) ⟨t, k1, rfl, hw, hk1, rfl⟩
end Go.Proofs.YtpdboaedoimahaaGreatDoor
end
section
set_option linter.unusedSectionVars false
set_option linter.unusedVariables false
namespace Go.Proofs.YtpdboaedoimahaaGreatDoor
open Go.RowKit Go.MapKept
set_option maxHeartbeats 1000000 in
theorem srcTuple0 {u : PH} {s : Src} {ts : List Int} {k : Nat} {v w x y : Value} {T : List (List UInt8 × Nat)} (h : SrcOK u s ts) (hk : k ≤ s.n) (hT : ListP u v 2 (T.map attV)) (hl : T.length ≤ 1000) (hkd : ∀ a ∈ T, 1 ≤ a.2 ∧ a.2 ≤ 3) (hw : ∃ a n c, w = .slice a n c) (hx : ∃ a n c, x = .slice a n c) (hy : ∃ z : Int, y = .int .i64 z) :
  Contract Tryz.prog 15 [s.ptr, .agg #[v, w, x, y]] u (s.M k) fun r u' m' => ∃ (ss : List (List UInt8)) (k' : Nat), ListP u' r 1 (ss.map nmV) ∧ ss.length = T.length ∧ (∀ (i : Nat) (x : List UInt8 × Nat) (t : List UInt8), T[i]? = some x → ss[i]? = some t → ValOK x.2 t) ∧ k' ≤ s.n ∧ m' = s.M k' := by
 obtain ⟨a, c, rfl⟩ := hT.opn
 obtain ⟨wa, wn, wc, rfl⟩ := hw
 obtain ⟨xa, xn, xc, rfl⟩ := hx
 obtain ⟨z, rfl⟩ := hy
 rw [List.length_map] at hT ⊢
 refine Contract.of Tryz.func15 (by kernel_rfl) (by kernel_rfl) ?_
 refine G.loop (ι := Nat × Nat × List (List UInt8) × (Option Addr × Nat)) (fun i => [(0, .v s.ptr), (5, .v (.slice i.2.2.2.1 i.2.2.1.length i.2.2.2.2)), (9, .v (.slice a T.length c)), (10, .v (.int .i64 (T.length : Int))), (11, .v (.int .i64 (i.1 : Int)))]) (fun _ => [])
  (fun i u' m' => i.1 ≤ T.length ∧ i.2.1 ≤ s.n ∧ i.2.2.1.length = i.1 ∧ (∀ (j : Nat) (x : List UInt8 × Nat) (t : List UInt8), T[j]? = some x → i.2.2.1[j]? = some t → ValOK x.2 t) ∧ Bag m' [s.arr i.2.1, nArr i.2.2.2.1 i.2.2.2.2 i.2.2.1])
  (fun i => T.length - i.1) (0, k, [], (none, 0)) (by kernel_rfl) (fun _ => by kernel_rfl) ⟨by kernel_rfl, by kernel_rfl, by kernel_rfl⟩
  ⟨Nat.zero_le _, hk, rfl, fun j x t _ ht => by simp at ht, s.bag0 k ⟨PH.mt, ArrAt.nil _ _ _, trivial⟩⟩ ?_
 rintro J ⟨i, k1, ss, ⟨na, nc⟩⟩ hJ u1 m1 l1 ⟨hi, hk1, hsl, hss, hbag⟩
 simp only at hi hk1 hsl hss hbag hJ
 obtain ⟨m0, hsrc, hL⟩ := hbag
 obtain ⟨rfl, hg0⟩ := Src.split hsrc
 by_cases hlt : i < T.length
 ·refine G.lssT (i : Int) (T.length : Int) (by kernel_rfl) (by omega) ?_
  have hTi : T[i]? = some T[i] := List.getElem?_eq_getElem hlt
  obtain ⟨hk1', hk3'⟩ := hkd T[i] (List.getElem_mem hlt)
  obtain ⟨ba, oa, rfl, ea⟩ := ListP.at' (hT.mono l1) (j := i) (e := attV T[i]) (by simp [hTi])
  generalize T[i] = q at ea hTi hk1' hk3'
  refine G.addr ba oa T.length c i 2 (by kernel_rfl) hlt ?_
  refine G.loadU (some 2) ba (oa + i * 2) (.agg #[.string (mkS q.1), .int .i64 (q.2 : Int)]) (by kernel_rfl) (by kernel_rfl) ea ?_
  refine G.callA _ _ (by kernel_rfl) (by kernel_rfl) Tryz.call46 rfl (Src.apart hg0) (srcValue0 (x := q) (h.mono l1) hk1 hk1' hk3') ?_
  rintro v2 u2 m2 l2 ⟨t, k2, rfl, hv, hk2, rfl⟩ _
  refine G.buildU 9 1 16 (.string (mkS [])) [.string (mkS t)] (by kernel_rfl) (nmV_ok [t]) rfl (by omega) (by simp) (by simp) ?_
  intro g3 u3 l3 e3
  have hbag2 : Bag (m0.or (s.M k2)) [s.arr k2, nArr na nc ss] := ⟨m0, Src.at hg0, hL⟩
  obtain ⟨mm, hx0, hput⟩ := hbag2.focus 1 rfl
  rw [nArr_at] at hx0
  refine G.append 9 1 16 (.string (mkS [])) mm (ss.map nmV) [.string (mkS t)] (.slice na ss.length nc) g3 0 1 1 (by kernel_rfl) rfl rfl (by omega) hx0 e3 (nmV_ok [t]) rfl (by omega) (by simp; omega) (by simp; omega) ?_
  intro v4 m4 hx4
  rw [show ss.map nmV ++ [.string (mkS t)] = (ss ++ [t]).map nmV by rw [List.map_append]; rfl] at hx4
  obtain ⟨a4, c4, rfl⟩ := hx4.shape
  rw [List.length_map] at hx4 ⊢
  have hbag3 := hput (nArr a4 c4 (ss ++ [t])) m4 hx4
  refine G.add (i : Int) 1 ((i + 1 : Nat) : Int) (by kernel_rfl) (by omega) (by omega) (by omega) ?_
  refine G.back (by kernel_rfl) (hJ (i + 1, k2, ss ++ [t], (a4, c4)) _ _ _ ⟨by kernel_rfl, by kernel_rfl, by kernel_rfl⟩ ((l1.trans l2).trans l3) ⟨by dsimp only; omega, hk2, by dsimp only; simp [hsl], ?_, hbag3⟩ (by dsimp only; omega))
  intro j x' t' hx' ht'
  dsimp only at ht'
  rcases Nat.lt_or_ge j ss.length with hj | hj
  ·rw [List.getElem?_append_left hj] at ht'
   exact hss j x' t' hx' ht'
  ·rw [List.getElem?_append_right hj] at ht'
   have hj0 : j - ss.length = 0 := by
    obtain ⟨h', _⟩ := List.getElem?_eq_some_iff.1 ht'
    simp at h'; omega
   rw [hj0] at ht'
   obtain rfl : j = i := by omega
   rw [hTi] at hx'
   cases hx'
   simp at ht'
   subst ht'
   exact hv
 ·obtain rfl : i = T.length := by omega
  refine G.lssF (T.length : Int) (T.length : Int) (by kernel_rfl) (by omega) ?_
  refine G.giveP (ma := m0) (sm := s.M k1) (by kernel_rfl) rfl (Src.apart hg0) (s.h0 k k1) ?_
  intro u2 l2 hm
  exact G.ret (.slice na ss.length nc) (by kernel_rfl) ⟨ss, k1, hL.list hm 0 rfl, hsl, hss, hk1, rfl⟩
end Go.Proofs.YtpdboaedoimahaaGreatDoor
end
section
set_option linter.unusedSectionVars false
set_option linter.unusedVariables false
namespace Go.Proofs.YtpdboaedoimahaaGreatDoor
open Go.RowKit Go.MapKept
structure CF.One (F : CF) : Prop where
 c : F.c = 1
 t : ∀ k, F.t k = if 0 < cmpP k.1 k.2 then 0 else F.s k.1 * F.s k.2
theorem CF.One.num : (CF.num 1).One := ⟨rfl, fun k => by
 show (0 : Rat) = if 0 < cmpP k.1 k.2 then 0 else (0 : Rat) * 0
 split
 ·rfl
 ·grind⟩
theorem one1_s (p : Par) (q : Rat) (k : Par) : (CF.one1 p q).s k = if k = p then q else 0 := rfl
theorem CF.One.one1 (p : Par) (q : Rat) : (CF.one1 p q).One := ⟨rfl, fun k => by
 show (if k = (p, p) then q * q else 0) = if 0 < cmpP k.1 k.2 then 0 else (if k.1 = p then q else 0) * (if k.2 = p then q else 0)
 obtain ⟨x, y⟩ := k
 by_cases h : (x, y) = (p, p)
 ·obtain ⟨e1, e2⟩ := Prod.mk.inj h
  subst e2
  rw [e1]
  have := ordP.refl y
  rw [if_pos rfl, if_neg (by simp only; omega)]
  simp
 ·rw [if_neg h]
  split
  ·rfl
  ·by_cases h1 : x = p
   ·have h2 : y ≠ p := fun e => h (by rw [h1, e])
    simp only [h2, if_false]; grind
   ·simp only [h1, if_false]; grind⟩
theorem CF.One.mul {F G : CF} (hF : F.One) (hG : G.One) : (F.mul G).One ∧ ∀ p, (F.mul G).s p = F.s p + G.s p := by
 have hs : ∀ p, (F.mul G).s p = F.s p + G.s p := fun p => by
  show G.s p * F.c + F.s p * G.c = _
  rw [hF.c, hG.c]; grind
 refine ⟨⟨?_, fun k => ?_⟩, hs⟩
 ·show F.c * G.c = 1
  rw [hF.c, hG.c]; decide +kernel
 ·rw [hs, hs]
  show G.t k * F.c + F.t k * G.c + crossP F G k = _
  rw [hF.c, hG.c, hF.t, hG.t]
  unfold crossP
  split
  ·grind
  ·split
   ·rename_i he
    rw [← he]; grind
   ·grind
abbrev LF : Type := Option (Option (Par × Rat))
def LF.cf : LF → CF
 | none => CF.num 0
 | some none => CF.num 1
 | some (some x) => CF.one1 x.1 x.2
def prdL (C : CF) (L : List LF) : CF := L.foldl (fun c y => c.mul y.cf) C
theorem prdL_snoc (C : CF) (L : List LF) (x : LF) : prdL C (L ++ [x]) = (prdL C L).mul x.cf := by unfold prdL; rw [List.foldl_append]; rfl
theorem num0_mul (F : CF) : (CF.num 0).mul F = CF.num 0 := by
 rw [CF.mul_comm]; exact CF.mul_zero F
theorem prdL_num0 : ∀ L, prdL (CF.num 0) L = CF.num 0
 | [] => rfl
 | x :: L => by
  unfold prdL
  rw [List.foldl_cons, num0_mul]
  exact prdL_num0 L
theorem prdL_none {C : CF} {L : List LF} (h : none ∈ L) : prdL C L = CF.num 0 := by
 obtain ⟨A, B, rfl⟩ := List.append_of_mem h
 unfold prdL
 rw [List.foldl_append, List.foldl_cons]
 have : (List.foldl (fun c (y : LF) => c.mul (LF.cf y)) C A).mul (LF.cf none) = CF.num 0 := CF.mul_zero _
 rw [this]
 exact prdL_num0 B
theorem LF.one {x : LF} (h : x ≠ none) : x.cf.One := by
 match x, h with
 | some none, _ => exact CF.One.num
 | some (some x), _ => exact CF.One.one1 _ _
theorem prdL_one : ∀ {L : List LF} {C : CF}, C.One → none ∉ L → (prdL C L).One
 | [], C, h, _ => h
 | x :: L, C, h, hn => by
  have hx : x ≠ none := fun e => hn (by rw [e]; exact List.mem_cons_self ..)
  unfold prdL
  rw [List.foldl_cons]
  exact prdL_one (h.mul (LF.one hx)).1 fun e => hn (List.mem_cons_of_mem _ e)
theorem prdL_s0 {p : Par} : ∀ {L : List LF} {C : CF}, C.One → none ∉ L → (∀ q, some (some (p, q)) ∉ L) → (prdL C L).s p = C.s p
 | [], C, h, _, _ => rfl
 | x :: L, C, h, hn, hp => by
  have hx : x ≠ none := fun e => hn (by rw [e]; exact List.mem_cons_self ..)
  have hm := h.mul (LF.one hx)
  unfold prdL
  rw [List.foldl_cons]
  have := prdL_s0 (p := p) hm.1 (fun e => hn (List.mem_cons_of_mem _ e)) fun q e => hp q (List.mem_cons_of_mem _ e)
  unfold prdL at this
  rw [this, hm.2]
  have hz : x.cf.s p = 0 := by
   match x, hx, hp with
   | some none, _, _ => rfl
   | some (some (p', q)), _, hp =>
    show (if p = p' then q else 0) = 0
    rw [if_neg fun e => hp q (by rw [e]; exact List.mem_cons_self ..)]
  rw [hz]; grind
theorem prdL_s1 {p : Par} {q : Rat} {L : List LF} {C : CF} {a : Nat} (h : C.One) (hn : none ∉ L) (hc : C.s p = 0) (ha : L[a]? = some (some (some (p, q)))) (hd : ∀ b q', L[b]? = some (some (some (p, q'))) → b = a) : (prdL C L).s p = q := by
 obtain ⟨hal, hae⟩ := List.getElem?_eq_some_iff.1 ha
 have e : L = L.take a ++ some (some (p, q)) :: L.drop (a + 1) := by
  rw [← hae, List.getElem_cons_drop, List.take_append_drop]
 have hnA : none ∉ L.take a := fun hh => hn (List.mem_of_mem_take hh)
 have hnB : none ∉ L.drop (a + 1) := fun hh => hn (List.mem_of_mem_drop hh)
 have hpA : ∀ q', some (some (p, q')) ∉ L.take a := fun q' hh => by
  obtain ⟨b, hb, hb2⟩ := List.getElem_of_mem hh
  rw [List.length_take] at hb
  rw [List.getElem_take] at hb2
  have := hd b q' (by rw [List.getElem?_eq_getElem (by omega), hb2])
  omega
 have hpB : ∀ q', some (some (p, q')) ∉ L.drop (a + 1) := fun q' hh => by
  obtain ⟨b, hb, hb2⟩ := List.getElem_of_mem hh
  rw [List.length_drop] at hb
  rw [List.getElem_drop] at hb2
  have := hd (a + 1 + b) q' (by rw [List.getElem?_eq_getElem (by omega), hb2])
  omega
 rw [e]
 have hA := prdL_s0 (p := p) h hnA hpA
 have hA1 := prdL_one h hnA
 have hM := hA1.mul (CF.One.one1 p q)
 have hB := prdL_s0 (p := p) hM.1 hnB hpB
 have : prdL C (L.take a ++ some (some (p, q)) :: L.drop (a + 1)) = prdL ((prdL C (L.take a)).mul (CF.one1 p q)) (L.drop (a + 1)) := by
  unfold prdL; rw [List.foldl_append, List.foldl_cons]; rfl
 rw [this, hB, hM.2, hA, hc, one1_s, if_pos rfl]; grind
noncomputable def numT (t : List UInt8) : Rat := open Classical in if h : ∃ q, SmR q ∧ t = ratT q then h.choose else 0
theorem numT_spec {t : List UInt8} (h : ∃ q, SmR q ∧ t = ratT q) : SmR (numT t) ∧ ratT (numT t) = t := by
 unfold numT
 rw [dif_pos h]
 exact ⟨h.choose_spec.1, h.choose_spec.2.symm⟩
noncomputable def featO (i : Nat) (f : Feat) (w : List UInt8) : LF := if f.2.1 = 2 then some (some (((i : Int), w), 1)) else if w = [] then (if f.2.2 = 1 then none else some none) else some (some (((i : Int), []), numT w))
noncomputable def labO (w : List UInt8) : LF := if w = [] then none else some (some ((-1, []), numT w))
noncomputable def attO (F : List Feat) (lab : Int) (a : Nat) (w : List UInt8) : LF := if (a : Int) = lab then labO w else match F.findIdx? (fun f => f.1 == a) with | some k => featO k (F.getD k (0, 0, 0)) w | none => some none
noncomputable def lifts (F : List Feat) (lab : Int) (ss : List (List UInt8)) : List LF := ss.mapIdx (attO F lab)
theorem lifts_at {F : List Feat} {lab : Int} {ss : List (List UInt8)} {a : Nat} {w : List UInt8} (h : ss[a]? = some w) : (lifts F lab ss)[a]? = some (attO F lab a w) := by
 unfold lifts; rw [List.getElem?_mapIdx, h]; rfl
theorem lifts_len {F : List Feat} {lab : Int} {ss : List (List UInt8)} : (lifts F lab ss).length = ss.length := by unfold lifts; simp
theorem feat_idx {F : List Feat} (hn : (F.map (·.1)).Nodup) {i : Nat} {f : Feat} (hf : F[i]? = some f) : F.findIdx? (fun g => g.1 == f.1) = some i := by
 obtain ⟨hi, rfl⟩ := List.getElem?_eq_some_iff.1 hf
 refine List.findIdx?_eq_some_iff_getElem.2 ⟨hi, by simp, fun j hj => ?_⟩
 simp only [beq_iff_eq]
 intro e
 have := (List.getElem_inj (xs := F.map (·.1)) (h₀ := by rw [List.length_map]; omega) (h₁ := by rw [List.length_map]; omega) (i := j) (j := i) hn).1 (by rw [List.getElem_map, List.getElem_map]; exact e)
 omega
theorem attO_feat {F : List Feat} {lab : Int} {i : Nat} {f : Feat} {w : List UInt8} (hn : (F.map (·.1)).Nodup) (hf : F[i]? = some f) (hl : (f.1 : Int) ≠ lab) : attO F lab f.1 w = featO i f w := by
 unfold attO
 rw [if_neg hl, feat_idx hn hf]
 simp [List.getD_eq_getElem?_getD, hf]
theorem attO_cases {F : List Feat} {lab : Int} {a : Nat} {w : List UInt8} (h : (a : Int) ≠ lab) : attO F lab a w = some none ∨ ∃ (i : Nat) (f : Feat), F[i]? = some f ∧ f.1 = a ∧ attO F lab a w = featO i f w := by
 unfold attO
 rw [if_neg h]
 cases hx : F.findIdx? (fun f => f.1 == a) with
 | none => exact .inl rfl
 | some k =>
  obtain ⟨hk, h1, _⟩ := List.findIdx?_eq_some_iff_getElem.1 hx
  right
  refine ⟨k, F[k], List.getElem?_eq_getElem hk, by simpa using h1, ?_⟩
  simp [List.getD_eq_getElem?_getD, List.getElem?_eq_getElem hk]
theorem lifts_key {F : List Feat} {lab : Int} {ss : List (List UInt8)} (hl : -1 ≤ lab) {a b : Nat} {p : Par} {q q' : Rat} (ha : (lifts F lab ss)[a]? = some (some (some (p, q)))) (hb : (lifts F lab ss)[b]? = some (some (some (p, q')))) : b = a := by
 have key : ∀ {a : Nat} {q : Rat}, (lifts F lab ss)[a]? = some (some (some (p, q))) → ((a : Int) = lab ∧ p.1 = -1) ∨ ∃ (i : Nat) (f : Feat), F[i]? = some f ∧ f.1 = a ∧ p.1 = (i : Int) := by
  intro a q ha
  unfold lifts at ha
  rw [List.getElem?_mapIdx] at ha
  cases hw : ss[a]? with
  | none => rw [hw] at ha; cases ha
  | some w =>
   rw [hw] at ha
   simp only [Option.map_some, Option.some.injEq] at ha
   by_cases h : (a : Int) = lab
   ·left
    unfold attO labO at ha
    rw [if_pos h] at ha
    split at ha
    ·cases ha
    ·cases ha; exact ⟨h, rfl⟩
   ·right
    rcases attO_cases (F := F) (w := w) h with e | ⟨i, f, h1, h2, h3⟩
    ·rw [e] at ha; cases ha
    ·rw [h3] at ha
     refine ⟨i, f, h1, h2, ?_⟩
     unfold featO at ha
     split at ha
     ·cases ha; rfl
     ·split at ha
      ·split at ha <;> cases ha
      ·cases ha; rfl
 rcases key ha with ⟨h1, h2⟩ | ⟨i, f, h1, h2, h3⟩ <;> rcases key hb with ⟨k1, k2⟩ | ⟨i', f', k1, k2, k3⟩
 ·omega
 ·omega
 ·omega
 ·obtain rfl : i' = i := by omega
  rw [h1] at k1; cases k1
  omega
end Go.Proofs.YtpdboaedoimahaaGreatDoor
end
section
set_option linter.unusedSectionVars false
set_option linter.unusedVariables false
namespace Go.Proofs.YtpdboaedoimahaaGreatDoor
open Go.RowKit Go.MapKept
theorem elP_of {m : PH} {b : Nat} {t : TypeId} {xs : List Value} {e : Value} (hm : m b = some (.cells xs.toArray t (0, 0))) (he : e.cells = xs.toArray) : ElP m b 0 e := fun i x hx => by
 refine ⟨_, _, _, hm, ?_⟩
 rw [he] at hx
 simpa using hx
theorem CofP.up {u : PH} {v : Value} {F : CF} {K K' : Nat} (h : CofP u v F K) (hk : K ≤ K') : CofP u v F K' := by
 obtain ⟨T, Q, a1, c1, a2, c2, e, hT, hQ, cT, cQ, kT, kQ⟩ := h
 exact ⟨T, Q, a1, c1, a2, c2, e, hT, hQ, cT, cQ, by omega, by omega⟩
theorem SmR.dat {q : Rat} (h : SmR q) : Dat q := ⟨by have := h.num; omega, h.le⟩
theorem SmR.sb {q : Rat} (h : SmR q) : SB q := h.dn.small (by omega) (pw (by decide +kernel))
theorem SmR.sb2 {q : Rat} (h : SmR q) : SB (q * q) := (h.dn.mul h.dn).small (by omega) (pw (by decide +kernel))
theorem smR_one : SmR 1 := ⟨by decide +kernel, by decide +kernel⟩
def LF.Small : LF → Prop
 | some (some x) => SmR x.2 ∧ PV x.1
 | _ => True
theorem LF.Small.cfd {x : LF} (h : x.Small) : CFD 2 11664 x.cf := by
 match x, h with
 | none, _ => exact CFD.count (Dn.zero _ _)
 | some none, _ => exact CFD.count ⟨144, by decide +kernel, by decide⟩
 | some (some x), h =>
  have hq : Dn 2 11664 x.2 := by
   have := h.1.dn.mul (show Dn 1 108 1 from ⟨12, by decide +kernel, by decide⟩)
   rw [show x.2 * 1 = x.2 by grind] at this
   exact this.mono (by omega)
  exact one1_cfd ⟨144, by decide +kernel, by decide⟩ hq ((h.1.dn.mul h.1.dn).mono (by omega))
theorem LF.Small.cfv {x : LF} (h : x.Small) : CFV x.cf := by
 match x, h with
 | none, _ => exact CFV.count 0
 | some none, _ => exact CFV.count 1
 | some (some x), h => exact one1_cfv h.2
theorem prdL_cfd {L : List LF} (h : ∀ x ∈ L, x.Small) : ∀ i, i ≤ L.length → CFD (2 * i) (46656 ^ i) (prdL (CF.num 1) (L.take i)) ∧ CFV (prdL (CF.num 1) (L.take i))
 | 0, _ => ⟨CFD.count ⟨1, by decide +kernel, by decide⟩, CFV.count 1⟩
 | i + 1, hi => by
  obtain ⟨h1, h2⟩ := prdL_cfd h i (by omega)
  have hx := h _ (List.getElem_mem (show i < L.length by omega))
  have e : L.take (i + 1) = L.take i ++ [L[i]] := by rw [List.take_add_one, List.getElem?_eq_getElem (by omega)]; rfl
  rw [e, prdL_snoc]
  refine ⟨?_, h2.mul hx.cfv⟩
  have := h1.mul hx.cfd
  rw [show 2 * (i + 1) = 2 * i + 2 by omega]
  exact this.mono (by rw [Nat.pow_succ]; omega)
theorem value0 {u : PH} {x : List UInt8 × Nat} {t : List UInt8} (h1 : 1 ≤ x.2) (h3 : x.2 ≤ 3) (hv : ValOK x.2 t) : Fn0 Tryz.prog 82 [attV x, .string (mkS t)] u fun v _ => v = .bool true := by
 obtain ⟨s, k⟩ := x
 rcases hv with rfl | ⟨rfl, hw⟩ | ⟨rfl, z, hz, rfl⟩ | ⟨rfl, q, hq, rfl⟩
 ·exact valueE0 h1 h3
 ·exact valueC0 hw
 ·exact valueK0 hz
 ·exact valueN0 hq.dat
theorem valOK_num2 {t : List UInt8} (h : ValOK 2 t) (hne : t ≠ []) : SmR (numT t) ∧ ratT (numT t) = t := by
 rcases h with e | ⟨e, _⟩ | ⟨e, _⟩ | ⟨_, q, hq, e⟩
 ·exact absurd e hne
 ·omega
 ·omega
 ·exact numT_spec ⟨q, hq, e⟩
theorem attO_small {T : List (List UInt8 × Nat)} {F : List Feat} {lab : Int} {a : Nat} {x : List UInt8 × Nat} {t : List UInt8} (hF : FeatOK T F lab) (hl2 : ∀ l : Nat, lab = (l : Int) → ∃ n, T[l]? = some (n, 2)) (hfl : F.length ≤ 8) (hx : T[a]? = some x) (hv : ValOK x.2 t) : (attO F lab a t).Small := by
 by_cases hlab : (a : Int) = lab
 ·obtain ⟨n, hn⟩ := hl2 a hlab.symm
  rw [hx] at hn; cases hn
  unfold attO labO
  rw [if_pos hlab]
  by_cases ht : t = []
  ·rw [if_pos ht]; trivial
  ·rw [if_neg ht]
   exact ⟨(valOK_num2 hv ht).1, ⟨by show (-1 : Int) ≤ -1; omega, by show (-1 : Int) ≤ 1000; omega, .inl rfl⟩⟩
 ·rcases attO_cases (F := F) (w := t) hlab with e | ⟨i, f, h1, rfl, h3⟩
  ·rw [e]; trivial
  ·rw [h3]
   obtain ⟨hi, _⟩ := List.getElem?_eq_some_iff.1 h1
   obtain ⟨n, k, hk, hkind, _⟩ := hF.ok f (List.mem_of_getElem? h1)
   rw [hk] at hx; cases hx
   unfold featO
   rcases hkind with ⟨k1, k2, k3⟩ | ⟨k1, k2, k3⟩
   ·rw [if_neg (by omega)]
    by_cases ht : t = []
    ·rw [if_pos ht]; split <;> trivial
    ·rw [if_neg ht]
     subst k2
     exact ⟨(valOK_num2 hv ht).1, ⟨by show (-1 : Int) ≤ (i : Int); omega, by show (i : Int) ≤ 1000; omega, .inl rfl⟩⟩
   ·rw [if_pos k1]
    refine ⟨smR_one, ⟨by show (-1 : Int) ≤ (i : Int); omega, by show (i : Int) ≤ 1000; omega, ?_⟩⟩
    rcases hv with e | ⟨_, hw⟩ | ⟨e, _⟩ | ⟨e, _⟩
    ·exact .inl e
    ·exact .inr hw
    ·omega
    ·omega
end Go.Proofs.YtpdboaedoimahaaGreatDoor
end
section
set_option linter.unusedSectionVars false
set_option linter.unusedVariables false
namespace Go.Proofs.YtpdboaedoimahaaGreatDoor
open Go.RowKit Go.MapKept
structure TupOK (T : List (List UInt8 × Nat)) (ss : List (List UInt8)) : Prop where
 len : ss.length = T.length
 val : ∀ (i : Nat) (x : List UInt8 × Nat) (t : List UInt8), T[i]? = some x → ss[i]? = some t → ValOK x.2 t
theorem TupOK.at {T : List (List UInt8 × Nat)} {ss : List (List UInt8)} (h : TupOK T ss) {i : Nat} (hi : i < ss.length) : ∃ x, T[i]? = some x ∧ ValOK x.2 ss[i] := by
 have := h.len
 have e : T[i]? = some (T[i]'(by omega)) := List.getElem?_eq_getElem (by omega)
 exact ⟨_, e, h.val i _ _ e (List.getElem?_eq_getElem hi)⟩
def dropB (ss : List (List UInt8)) (f : Feat) : Bool := f.2.1 == 1 && f.2.2 == 1 && (ss.getD f.1 []).isEmpty
def cntB (F : List Feat) (lab : Int) (ss : List (List UInt8)) : Bool := !(decide (0 ≤ lab) && (ss.getD lab.toNat []).isEmpty) && !F.any (dropB ss)
theorem feat_at {T : List (List UInt8 × Nat)} {F : List Feat} {lab : Int} {ss : List (List UInt8)} (hF : FeatOK T F lab) (ht : TupOK T ss) {f : Feat} (hf : f ∈ F) : f.1 < ss.length := by
 obtain ⟨n, k, h, _⟩ := hF.ok f hf
 obtain ⟨h1, _⟩ := List.getElem?_eq_some_iff.1 h
 have := ht.len; omega
theorem lifts_feat {T : List (List UInt8 × Nat)} {F : List Feat} {lab : Int} {ss : List (List UInt8)} (hF : FeatOK T F lab) (ht : TupOK T ss) {i : Nat} {f : Feat} (hf : F[i]? = some f) : (lifts F lab ss)[f.1]? = some (featO i f (ss.getD f.1 [])) := by
 have hm := List.mem_of_getElem? hf
 have hl := feat_at hF ht hm
 obtain ⟨n, k, _, _, hne⟩ := hF.ok f hm
 rw [lifts_at (w := ss[f.1]) (List.getElem?_eq_getElem hl), attO_feat hF.nodup hf hne]
 simp [List.getD_eq_getElem?_getD, List.getElem?_eq_getElem hl]
theorem lifts_lab {F : List Feat} {lab : Int} {ss : List (List UInt8)} {l : Nat} (hl : lab = (l : Int)) (h : l < ss.length) : (lifts F lab ss)[l]? = some (labO (ss.getD l [])) := by
 rw [lifts_at (w := ss[l]) (List.getElem?_eq_getElem h)]
 unfold attO
 rw [if_pos hl.symm]
 simp [List.getD_eq_getElem?_getD, List.getElem?_eq_getElem h]
theorem cnt_iff {T : List (List UInt8 × Nat)} {F : List Feat} {lab : Int} {ss : List (List UInt8)} (hF : FeatOK T F lab) (ht : TupOK T ss) (h1 : -1 ≤ lab) (h2 : ∀ l : Nat, lab = (l : Int) → l < ss.length) : cntB F lab ss = true ↔ none ∉ lifts F lab ss := by
 unfold cntB
 simp only [Bool.and_eq_true, Bool.not_eq_true', Bool.and_eq_false_iff, decide_eq_false_iff_not, Int.not_le]
 constructor
 ·rintro ⟨a, b⟩ hm
  obtain ⟨i, hi, hi2⟩ := List.getElem_of_mem hm
  have hi3 : (lifts F lab ss)[i]? = some none := by rw [List.getElem?_eq_getElem hi, hi2]
  have hil : i < ss.length := by rw [lifts_len] at hi; exact hi
  rw [lifts_at (w := ss[i]) (List.getElem?_eq_getElem hil)] at hi3
  simp only [Option.some.injEq] at hi3
  by_cases hlab : (i : Int) = lab
  ·unfold attO labO at hi3
   rw [if_pos hlab] at hi3
   split at hi3
   ·rename_i he
    rcases a with a | a
    ·omega
    ·rw [← hlab] at a
     simp [List.getD_eq_getElem?_getD, List.getElem?_eq_getElem hil, he] at a
   ·cases hi3
  ·rcases attO_cases (F := F) (w := ss[i]) hlab with e | ⟨j, f, g1, g2, g3⟩
   ·rw [e] at hi3; cases hi3
   ·rw [g3] at hi3
    unfold featO at hi3
    split at hi3
    ·cases hi3
    ·rename_i k2
     split at hi3
     ·rename_i he
      split at hi3
      ·rename_i k3
       have hfm := List.mem_of_getElem? g1
       obtain ⟨n, k, _, hk, _⟩ := hF.ok f hfm
       have k1 : f.2.1 = 1 := by rcases hk with ⟨h, _⟩ | ⟨h, _⟩; exact h; exact absurd h k2
       have : dropB ss f = true := by
        unfold dropB
        rw [g2]
        simp [k1, k3, List.getD_eq_getElem?_getD, List.getElem?_eq_getElem hil, he]
       have hb := List.any_eq_false.1 b f hfm
       rw [this] at hb; exact absurd rfl hb
      ·cases hi3
     ·cases hi3
 ·intro hn
  constructor
  ·rcases Classical.em (lab < 0) with h | h
   ·exact .inl h
   ·right
    obtain ⟨l, hl⟩ : ∃ l : Nat, lab = (l : Int) := ⟨lab.toNat, by omega⟩
    have hlt := h2 l hl
    have := lifts_lab (F := F) hl hlt
    rw [hl, Int.toNat_natCast]
    cases he : ss.getD l [] with
    | cons x y => rfl
    | nil =>
     rw [he] at this
     exact absurd (List.mem_of_getElem? this) (by simpa [labO] using hn)
  ·rw [List.any_eq_false]
   intro f hf hd
   obtain ⟨i, hi, rfl⟩ := List.getElem_of_mem hf
   have := lifts_feat hF ht (List.getElem?_eq_getElem hi)
   unfold dropB at hd
   simp only [Bool.and_eq_true, beq_iff_eq, List.isEmpty_iff] at hd
   obtain ⟨⟨d1, d2⟩, d3⟩ := hd
   rw [d3] at this
   refine hn ?_
   have e : featO i F[i] [] = none := by unfold featO; rw [if_neg (by omega), if_pos rfl, if_pos d2]
   rw [e] at this
   exact List.mem_of_getElem? this
noncomputable def cfT (F : List Feat) (lab : Int) (ss : List (List UInt8)) : CF := prdL (CF.num 1) (lifts F lab ss)
theorem cfT_no {T : List (List UInt8 × Nat)} {F : List Feat} {lab : Int} {ss : List (List UInt8)} (hF : FeatOK T F lab) (ht : TupOK T ss) (h1 : -1 ≤ lab) (h2 : ∀ l : Nat, lab = (l : Int) → l < ss.length) (hc : cntB F lab ss = false) : cfT F lab ss = CF.num 0 := by
 refine prdL_none ?_
 rcases Classical.em (none ∈ lifts F lab ss) with h | h
 ·exact h
 ·rw [(cnt_iff hF ht h1 h2).2 h] at hc; cases hc
theorem cfT_at {T : List (List UInt8 × Nat)} {F : List Feat} {lab : Int} {ss : List (List UInt8)} (hF : FeatOK T F lab) (ht : TupOK T ss) (h1 : -1 ≤ lab) (h2 : ∀ l : Nat, lab = (l : Int) → l < ss.length) (hc : cntB F lab ss = true) {a : Nat} {p : Par} {q : Rat} (h : (lifts F lab ss)[a]? = some (some (some (p, q)))) : (cfT F lab ss).s p = q :=
 prdL_s1 CF.One.num ((cnt_iff hF ht h1 h2).1 hc) rfl h fun b q' hb => lifts_key h1 h hb
theorem lifts_small {u : PH} {T : List (List UInt8 × Nat)} {R : List SRel} {F : List Feat} {lab : Int} {ss : List (List UInt8)} (ok : SchOK u T R F lab) (ht : TupOK T ss) : ∀ x ∈ lifts F lab ss, x.Small := fun x hx => by
 obtain ⟨i, hi, rfl⟩ := List.getElem_of_mem hx
 rw [lifts_len] at hi
 have e := lifts_at (F := F) (lab := lab) (w := ss[i]) (List.getElem?_eq_getElem hi)
 rw [List.getElem?_eq_getElem (by rw [lifts_len]; exact hi), Option.some.injEq] at e
 rw [e]
 obtain ⟨y, hy, hv⟩ := ht.at hi
 exact attO_small ok.feat ok.l2 ok.f2 hy hv
end Go.Proofs.YtpdboaedoimahaaGreatDoor
end
section
set_option linter.unusedSectionVars false
set_option linter.unusedVariables false
namespace Go.Proofs.YtpdboaedoimahaaGreatDoor
open Go.RowKit Go.MapKept
noncomputable def vecO (ss : List (List UInt8)) (i : Nat) (f : Feat) : Option (Par × Rat) :=
 if f.2.1 = 2 then some (((i : Int), ss.getD f.1 []), 1) else if ss.getD f.1 [] = [] ∨ ss.getD f.1 [] = [48] then none else some (((i : Int), []), numT (ss.getD f.1 []))
noncomputable def vecL (F : List Feat) (ss : List (List UInt8)) (n : Nat) : List (Par × Rat) := (F.zipIdx.take n).filterMap fun p => vecO ss p.2 p.1
theorem vecL_zero (F : List Feat) (ss : List (List UInt8)) : vecL F ss 0 = [] := rfl
theorem zipIdx_at {F : List Feat} {i : Nat} {f : Feat} (h : F[i]? = some f) : F.zipIdx[i]? = some (f, i) := by
 rw [List.getElem?_zipIdx, h]; simp
theorem vecL_succ {F : List Feat} {ss : List (List UInt8)} {i : Nat} {f : Feat} (h : F[i]? = some f) : vecL F ss (i + 1) = vecL F ss i ++ (vecO ss i f).toList := by
 unfold vecL
 rw [List.take_add_one, zipIdx_at h, List.filterMap_append]
 cases e : vecO ss i f with
 | none => simp [e]
 | some x => simp [e]
theorem mem_vecL {F : List Feat} {ss : List (List UInt8)} {n : Nat} {x : Par × Rat} : x ∈ vecL F ss n ↔ ∃ i f, i < n ∧ F[i]? = some f ∧ vecO ss i f = some x := by
 unfold vecL
 rw [List.mem_filterMap]
 constructor
 ·rintro ⟨⟨f, i⟩, hm, he⟩
  obtain ⟨j, hj, hj2⟩ := List.getElem_of_mem hm
  rw [List.length_take] at hj
  rw [List.getElem_take, List.getElem_zipIdx] at hj2
  cases hj2
  refine ⟨j, _, by omega, List.getElem?_eq_getElem (by have := hj; simp at this; omega), ?_⟩
  simpa using he
 ·rintro ⟨i, f, hi, hf, he⟩
  refine ⟨(f, i), ?_, he⟩
  have : (F.zipIdx.take n)[i]? = some (f, i) := by rw [List.getElem?_take, if_pos hi, zipIdx_at hf]
  exact List.mem_of_getElem? this
theorem vecO_key {ss : List (List UInt8)} {i : Nat} {f : Feat} {x : Par × Rat} (h : vecO ss i f = some x) : x.1.1 = (i : Int) := by
 unfold vecO at h
 split at h
 ·cases h; rfl
 ·split at h
  ·cases h
  ·cases h; rfl
theorem vecL_nodup (F : List Feat) (ss : List (List UInt8)) : ∀ n, n ≤ F.length → ((vecL F ss n).map (·.1)).Nodup
 | 0, _ => by rw [vecL_zero]; simp
 | n + 1, hn => by
  rw [vecL_succ (List.getElem?_eq_getElem (show n < F.length by omega)), List.map_append]
  rw [List.nodup_append]
  refine ⟨vecL_nodup F ss n (by omega), ?_, fun a ha b hb e => ?_⟩
  ·cases vecO ss n F[n] <;> simp
  ·subst e
   obtain ⟨x, hx, rfl⟩ := List.mem_map.1 ha
   obtain ⟨i, f, hi, _, hv⟩ := mem_vecL.1 hx
   obtain ⟨y, hy, hye⟩ := List.mem_map.1 hb
   have h2 : vecO ss n F[n] = some y := by simpa using hy
   have := vecO_key hv
   have := vecO_key h2
   rw [hye] at this
   omega
theorem vecL_len (F : List Feat) (ss : List (List UInt8)) (n : Nat) : (vecL F ss n).length ≤ F.length := by
 unfold vecL
 refine Nat.le_trans (List.length_filterMap_le ..) ?_
 rw [List.length_take, List.length_zipIdx]; omega
theorem num_text {T : List (List UInt8 × Nat)} {F : List Feat} {lab : Int} {ss : List (List UInt8)} (hF : FeatOK T F lab) (ht : TupOK T ss) {f : Feat} (hf : f ∈ F) (h2 : f.2.1 ≠ 2) (h0 : ss.getD f.1 [] ≠ []) : SmR (numT (ss.getD f.1 [])) ∧ ratT (numT (ss.getD f.1 [])) = ss.getD f.1 [] := by
 obtain ⟨n, k, hk, hkind, _⟩ := hF.ok f hf
 have hl := feat_at hF ht hf
 have e : ss.getD f.1 [] = ss[f.1] := by simp [List.getD_eq_getElem?_getD, List.getElem?_eq_getElem hl]
 have hv := ht.val f.1 _ _ hk (List.getElem?_eq_getElem hl)
 rw [← e] at hv
 rcases hkind with ⟨_, rfl, _⟩ | ⟨h, _⟩
 ·exact valOK_num2 hv h0
 ·exact absurd h h2
theorem numT_zero {t : List UInt8} (h : ratT (numT t) = t) : numT t = 0 ↔ t = [48] := by
 constructor
 ·intro e; rw [← h, e]; exact ratT_zero
 ·intro e
  refine Classical.byContradiction fun hn => ?_
  exact ratT_ne0 hn (h.trans e)
theorem vecL_lift {T : List (List UInt8 × Nat)} {F : List Feat} {lab : Int} {ss : List (List UInt8)} (hF : FeatOK T F lab) (ht : TupOK T ss) {x : Par × Rat} {n : Nat} (hx : x ∈ vecL F ss n) : x.2 ≠ 0 ∧ ∃ a : Nat, (lifts F lab ss)[a]? = some (some (some x)) := by
 obtain ⟨i, f, _, hf, hv⟩ := mem_vecL.1 hx
 have hm := List.mem_of_getElem? hf
 have hl := lifts_feat hF ht hf
 unfold vecO at hv
 unfold featO at hl
 split at hv
 ·rename_i h2
  cases hv
  rw [if_pos h2] at hl
  exact ⟨(by decide : (1 : Rat) ≠ 0), _, hl⟩
 ·rename_i h2
  split at hv
  ·cases hv
  ·rename_i h0
   cases hv
   rw [if_neg h2, if_neg (fun e => h0 (.inl e))] at hl
   refine ⟨fun e => h0 (.inr ?_), _, hl⟩
   exact (numT_zero (num_text hF ht hm h2 (fun e => h0 (.inl e))).2).1 e
end Go.Proofs.YtpdboaedoimahaaGreatDoor
end
section
set_option linter.unusedSectionVars false
set_option linter.unusedVariables false
namespace Go.Proofs.YtpdboaedoimahaaGreatDoor
open Go.RowKit Go.MapKept
structure TupP (u : PH) (v tv : Value) (T : List (List UInt8 × Nat)) (R : List SRel) (F : List Feat) (lab : Int) (ss : List (List UInt8)) : Prop where
 sch : SchP u v T R F lab
 ok : SchOK u T R F lab
 lst : ListP u tv 1 (ss.map nmV)
 fit : TupOK T ss
theorem TupP.mono {u u' : PH} {v tv : Value} {T : List (List UInt8 × Nat)} {R : List SRel} {F : List Feat} {lab : Int} {ss : List (List UInt8)} (h : TupP u v tv T R F lab ss) (hl : PH.le u u') : TupP u' v tv T R F lab ss :=
 ⟨h.sch.mono hl, h.ok.mono hl, h.lst.mono hl, h.fit⟩
theorem TupP.lt {u : PH} {v tv : Value} {T : List (List UInt8 × Nat)} {R : List SRel} {F : List Feat} {lab : Int} {ss : List (List UInt8)} (h : TupP u v tv T R F lab ss) : ∀ l : Nat, lab = (l : Int) → l < ss.length := fun l hl => by
 obtain ⟨n, hn⟩ := h.ok.l2 l hl
 obtain ⟨h1, _⟩ := List.getElem?_eq_some_iff.1 hn
 have := h.fit.len
 omega
theorem text_at {u : PH} {a : Option Addr} {n c : Nat} {ss : List (List UInt8)} (h : ListP u (.slice a n c) 1 (ss.map nmV)) {i : Nat} (hi : i < ss.length) : ∃ b off, a = some ⟨b, off, none⟩ ∧ ElP u b (off + i * 1) (.string (mkS (ss.getD i []))) := by
 have e : ss.getD i [] = ss[i] := by simp [List.getD_eq_getElem?_getD, List.getElem?_eq_getElem hi]
 rw [e]
 exact ListP.at' h (j := i) (by simp [nmV, List.getElem?_eq_getElem hi])
set_option maxHeartbeats 1000000 in
theorem encTuple0 {u : PH} {v tv : Value} {T : List (List UInt8 × Nat)} {R : List SRel} {F : List Feat} {lab : Int} {ss : List (List UInt8)} (h : TupP u v tv T R F lab ss) :
  Fn0 Tryz.prog 39 [v, tv] u fun r _ => r = .int .i64 0 := by
 have hck := fun (u' : PH) (l : PH.le u u') => check0 (h.sch.mono l) (h.ok.mono l)
 obtain ⟨⟨xa, xc, xb, xd, xe, xf, rfl, hTL, hRL, hFL⟩, ok, hS, hT⟩ := h
 obtain ⟨ya, yc, rfl⟩ := hS.opn
 rw [List.length_map] at hS ⊢
 have hlen := hT.len
 have t2 := ok.t2
 refine Fn0.of Tryz.func39 (by kernel_rfl) (by kernel_rfl) ?_
 refine G.call0 _ _ (by kernel_rfl) Tryz.call31 (hck u (PH.le_refl _)) ?_
 rintro v1 u1 l1 rfl
 refine G.neqF 0 0 (by kernel_rfl) (by omega) ?_
 refine G.neqF (ss.length : Int) (T.length : Int) (by kernel_rfl) (by omega) ?_
 refine G.loop (ι := Nat) (fun i => [(2, .p 0 0), (19, .v (.slice ya ss.length yc)), (20, .v (.int .i64 (ss.length : Int))), (21, .v (.int .i64 (i : Int)))])
  (fun _ => [(0, ⟨30, [.v (.slice xa T.length xc), .v (.slice xb R.length xd), .v (.slice xe F.length xf), .v (.int .i64 lab)]⟩)])
  (fun i u' m' => i ≤ ss.length ∧ m' = PH.mt) (fun i => ss.length - i) 0 (by kernel_rfl) (fun _ => by kernel_rfl) ⟨by kernel_rfl, by kernel_rfl, by kernel_rfl⟩ ⟨by omega, rfl⟩ ?_
 rintro J i hJ u2 m2 l2 ⟨hi, rfl⟩
 have le2 := l1.trans l2
 by_cases hlt : i < ss.length
 ·refine G.lssT (i : Int) (ss.length : Int) (by kernel_rfl) (by omega) ?_
  obtain ⟨b, off, rfl, e⟩ := text_at (hS.mono le2) hlt
  refine G.addr b off ss.length yc i 1 (by kernel_rfl) hlt ?_
  refine G.loadU none b (off + i * 1) (.string (mkS (ss.getD i []))) (by kernel_rfl) (by kernel_rfl) e ?_
  have hTi : T[i]? = some T[i] := List.getElem?_eq_getElem (by omega)
  have hk := ok.att.kind T[i] (List.getElem_mem (by omega))
  have hv := hT.val i _ _ hTi (List.getElem?_eq_getElem hlt)
  rw [show ss[i] = ss.getD i [] by simp [List.getD_eq_getElem?_getD, List.getElem?_eq_getElem hlt]] at hv
  obtain ⟨ba, oa, rfl, ea⟩ := ListP.at' (hTL.mono le2) (j := i) (e := attV T[i]) (by simp [hTi])
  generalize T[i] = x at hTi hk hv ea
  refine G.addr ba oa T.length xc i 2 (by kernel_rfl) (by omega) ?_
  refine G.loadU (some 2) ba (oa + i * 2) (attV x) (by kernel_rfl) (by kernel_rfl) ea ?_
  refine G.call0 _ _ (by kernel_rfl) Tryz.call82 (value0 hk.1 hk.2 hv) ?_
  rintro v3 u3 l3 rfl
  refine G.add (i : Int) 1 ((i + 1 : Nat) : Int) (by kernel_rfl) (by omega) (by omega) (by omega) ?_
  exact G.back (by kernel_rfl) (hJ (i + 1) _ _ _ ⟨by kernel_rfl, by kernel_rfl, by kernel_rfl⟩ (l2.trans l3) ⟨by omega, rfl⟩ (by omega))
 ·obtain rfl : i = ss.length := by omega
  refine G.lssF (ss.length : Int) (ss.length : Int) (by kernel_rfl) (by omega) ?_
  exact G.ret (.int .i64 0) (by kernel_rfl) ⟨rfl, rfl⟩
theorem fContains0 {u m : PH} {v cap : Value} {T : List Feat} {fid : Nat} (p : Feat → Bool) (r : Bool) (hr : T.any p = r) (h : ListP u v 3 (T.map featV)) (hl : T.length ≤ 1000000)
  (hcall : ∀ args w, (callFunc fid args).run Tryz.prog w = .ok (.enter fid args) w) (hf : ∀ f ∈ T, ∀ u', PH.le u u' → FnK Tryz.prog fid [featV f, cap] u' m fun v _ => v = .bool (p f)) :
  FnK Tryz.prog 40 [v, .func (.func fid) #[] #[cap]] u m fun v' _ => v' = .bool r := by
 obtain ⟨a, c, rfl⟩ := h.opn
 refine FnK.of Tryz.func40 (by kernel_rfl) (by kernel_rfl) ?_
 refine G.callK _ _ (by kernel_rfl) Tryz.call83 (fIndex0 (cap := cap) p h hl hcall hf) ?_
 rintro v1 u1 l1 rfl
 cases r with
 | true =>
  obtain ⟨x, hx, hp⟩ := List.any_eq_true.1 hr
  have : 0 ≤ idxF p T := by
   unfold idxF
   cases e : T.findIdx? p with
   | none => exact absurd hp (by rw [List.findIdx?_eq_none_iff.1 e x hx]; simp)
   | some k => simp only; omega
  refine G.geqT (idxF p T) 0 (by kernel_rfl) (by omega) ?_
  exact G.ret (.bool true) (by kernel_rfl) ⟨rfl, rfl⟩
 | false =>
  have h0 := List.any_eq_false.1 hr
  rw [idxF_no fun x hx => by simpa using h0 x hx]
  refine G.geqF (-1) 0 (by kernel_rfl) (by omega) ?_
  exact G.ret (.bool false) (by kernel_rfl) ⟨rfl, rfl⟩
theorem dropF0 {u m : PH} {f : Feat} {b : Nat} {ya : Option Addr} {yc : Nat} {ss : List (List UInt8)} (hb : ElP m b 0 (.slice ya ss.length yc)) (hS : ListP u (.slice ya ss.length yc) 1 (ss.map nmV)) (hf : f.1 < ss.length) :
  FnK Tryz.prog 41 [featV f, .pointer (some ⟨b, 0, none⟩)] u m fun v _ => v = .bool (dropB ss f) := by
 obtain ⟨f1, f2, f3⟩ := f
 simp only at hf
 refine FnK.of Tryz.func41 (by kernel_rfl) (by kernel_rfl) ?_
 unfold dropB
 simp only
 by_cases h2 : f2 = 1
 ·subst h2
  refine G.eqlT ((1 : Nat) : Int) 1 (by kernel_rfl) (by omega) ?_
  by_cases h3 : f3 = 1
  ·subst h3
   refine G.eqlT ((1 : Nat) : Int) 1 (by kernel_rfl) (by omega) ?_
   refine G.loadM none b 0 (.slice ya ss.length yc) (by kernel_rfl) (by kernel_rfl) hb ?_
   obtain ⟨bb, off, rfl, e⟩ := text_at hS hf
   refine G.addr bb off ss.length yc f1 1 (by kernel_rfl) hf ?_
   refine G.loadU none bb (off + f1 * 1) (.string (mkS (ss.getD f1 []))) (by kernel_rfl) (by kernel_rfl) e ?_
   by_cases h0 : ss.getD f1 [] = []
   ·refine G.eqST (ss.getD f1 []) [] (by kernel_rfl) h0 ?_
    exact G.ret (.bool true) (by kernel_rfl) ⟨rfl, by rw [h0]; rfl⟩
   ·refine G.eqSF (ss.getD f1 []) [] (by kernel_rfl) h0 ?_
    exact G.ret (.bool false) (by kernel_rfl) ⟨rfl, by
     cases hx : ss.getD f1 [] with
     | nil => exact absurd hx h0
     | cons x y => rfl⟩
  ·refine G.eqlF (f3 : Int) 1 (by kernel_rfl) (by omega) ?_
   exact G.ret (.bool false) (by kernel_rfl) ⟨rfl, by simp [h3]⟩
 ·refine G.eqlF (f2 : Int) 1 (by kernel_rfl) (by omega) ?_
  exact G.ret (.bool false) (by kernel_rfl) ⟨rfl, by simp [h2]⟩
set_option maxHeartbeats 1000000 in
theorem encCounts0 {u : PH} {v tv : Value} {T : List (List UInt8 × Nat)} {R : List SRel} {F : List Feat} {lab : Int} {ss : List (List UInt8)} (h : TupP u v tv T R F lab ss) :
  Fn0 Tryz.prog 12 [v, tv] u fun r _ => r = .bool (cntB F lab ss) := by
 have htu := encTuple0 h
 have hlt := h.lt
 obtain ⟨⟨xa, xc, xb, xd, xe, xf, rfl, hTL, hRL, hFL⟩, ok, hS, hT⟩ := h
 obtain ⟨ya, yc, rfl⟩ := hS.opn
 rw [List.length_map] at hS htu ⊢
 have f2 := ok.f2
 refine Fn0.of Tryz.func12 (by kernel_rfl) (by kernel_rfl) ?_
 refine G.call0 _ _ (by kernel_rfl) Tryz.call39 htu ?_
 rintro v1 u1 l1 rfl
 refine G.neqF 0 0 (by kernel_rfl) (by omega) ?_
 have hany : ∀ (m : PH) (b : Nat), ElP m b 0 (.slice ya ss.length yc) → ∀ u', PH.le u u' → FnK Tryz.prog 40 [.slice xe F.length xf, .func (.func 41) #[] #[.pointer (some ⟨b, 0, none⟩)]] u' m fun v' _ => v' = .bool (F.any (dropB ss)) := fun m b hb u' l =>
  fContains0 (dropB ss) _ rfl (hFL.mono l) (by omega) Tryz.call41 fun f hf u'' l' => dropF0 hb (hS.mono (l.trans l')) (feat_at ok.feat hT hf)
 have hcb : ∀ b : Nat, ElP (PH.mt.upd b (.cells [Value.slice ya ss.length yc].toArray 45 (0, 0))) b 0 (.slice ya ss.length yc) := fun b => elP_of (xs := [.slice ya ss.length yc]) (upd_same _ _ _) rfl
 unfold cntB
 by_cases hneg : lab < 0
 ·refine G.geqF lab 0 (by kernel_rfl) (by omega) ?_
  refine G.pub 1 45 [.slice ya ss.length yc] (by kernel_rfl) (by kernel_rfl) ?_
  intro b hb1 hb2
  refine G.callK _ _ (by kernel_rfl) Tryz.call40 (hany _ b (hcb b) u1 l1) ?_
  rintro v2 u2 l2 rfl
  rw [decide_eq_false (by omega)]
  cases F.any (dropB ss) with
  | true =>
   refine G.drop PH.mt (by kernel_rfl) (PH.mt_le _) ?_
   exact G.ret (.bool false) (by kernel_rfl) ⟨rfl, rfl⟩
  | false =>
   refine G.drop PH.mt (by kernel_rfl) (PH.mt_le _) ?_
   exact G.ret (.bool true) (by kernel_rfl) ⟨rfl, rfl⟩
 ·obtain ⟨l, rfl⟩ : ∃ l : Nat, lab = (l : Int) := ⟨lab.toNat, by omega⟩
  have hll := hlt l rfl
  rw [decide_eq_true (by omega), Int.toNat_natCast]
  refine G.geqT (l : Int) 0 (by kernel_rfl) (by omega) ?_
  obtain ⟨bb, off, rfl, e⟩ := text_at (hS.mono l1) hll
  refine G.addr bb off ss.length yc l 1 (by kernel_rfl) hll ?_
  refine G.loadU none bb (off + l * 1) (.string (mkS (ss.getD l []))) (by kernel_rfl) (by kernel_rfl) e ?_
  by_cases h0 : ss.getD l [] = []
  ·refine G.eqST (ss.getD l []) [] (by kernel_rfl) h0 ?_
   exact G.ret (.bool false) (by kernel_rfl) ⟨rfl, by rw [h0]; rfl⟩
  ·have hem : (ss.getD l []).isEmpty = false := by
    cases hx : ss.getD l [] with
    | nil => exact absurd hx h0
    | cons x y => rfl
   rw [hem]
   refine G.eqSF (ss.getD l []) [] (by kernel_rfl) h0 ?_
   refine G.pub 1 45 [.slice (some ⟨bb, off, none⟩) ss.length yc] (by kernel_rfl) (by kernel_rfl) ?_
   intro b hb1 hb2
   refine G.callK _ _ (by kernel_rfl) Tryz.call40 (hany _ b (hcb b) u1 l1) ?_
   rintro v2 u2 l2 rfl
   cases F.any (dropB ss) with
   | true =>
    refine G.drop PH.mt (by kernel_rfl) (PH.mt_le _) ?_
    exact G.ret (.bool false) (by kernel_rfl) ⟨rfl, rfl⟩
   | false =>
    refine G.drop PH.mt (by kernel_rfl) (PH.mt_le _) ?_
    exact G.ret (.bool true) (by kernel_rfl) ⟨rfl, rfl⟩
theorem pow8 {i : Nat} (h : i ≤ 8) : 46656 ^ i < 10 ^ 100 := Nat.lt_of_le_of_lt (Nat.pow_le_pow_right (by omega) h) (by decide +kernel)
theorem pow8' {i : Nat} (h : i < 8) : 8 * (46656 ^ i * 11664) < 10 ^ 100 := by
 have h1 : 46656 ^ i ≤ 46656 ^ 8 := Nat.pow_le_pow_right (by omega) (by omega)
 have h2 : 46656 ^ 8 < 10 ^ 50 := by decide +kernel
 have h3 : (10 : Nat) ^ 50 * 100000 < 10 ^ 100 := by decide +kernel
 omega
theorem entries0 {u : PH} {v tv : Value} {T : List (List UInt8 × Nat)} {R : List SRel} {F : List Feat} {lab : Int} {ss : List (List UInt8)} (h : TupP u v tv T R F lab ss) :
  Fn0 Tryz.prog 44 [v, tv] u fun r u' => ∃ b1 b2, r = .func (.func 85) #[] #[.pointer (some ⟨b1, 0, none⟩), .pointer (some ⟨b2, 0, none⟩)] ∧ ElP u' b1 0 v ∧ ElP u' b2 0 tv := by
 obtain ⟨⟨xa, xc, xb, xd, xe, xf, rfl, hTL, hRL, hFL⟩, ok, hS, hT⟩ := h
 obtain ⟨ya, yc, rfl⟩ := hS.opn
 rw [List.length_map]
 have hc : Contract Tryz.prog 44 [.agg #[.slice xa T.length xc, .slice xb R.length xd, .slice xe F.length xf, .int .i64 lab], .slice ya ss.length yc] u PH.mt (fun r u' m' => ∃ b1 b2, r = .func (.func 85) #[] #[.pointer (some ⟨b1, 0, none⟩), .pointer (some ⟨b2, 0, none⟩)] ∧ ElP m' b1 0 (.agg #[.slice xa T.length xc, .slice xb R.length xd, .slice xe F.length xf, .int .i64 lab]) ∧ ElP m' b2 0 (.slice ya ss.length yc)) := by
  refine Contract.of Tryz.func44 (by kernel_rfl) (by kernel_rfl) ?_
  refine G.pastI ?_
  refine G.pub 0 30 [.slice xa T.length xc, .slice xb R.length xd, .slice xe F.length xf, .int .i64 lab] (by kernel_rfl) (by kernel_rfl) ?_
  intro b1 hu1 hm1
  refine G.pub 1 45 [.slice ya ss.length yc] (by kernel_rfl) (by kernel_rfl) ?_
  intro b2 hu2 hm2
  have hne : b1 ≠ b2 := fun e => by subst e; rw [upd_same] at hm2; cases hm2
  exact G.ret (.func (.func 85) #[] #[.pointer (some ⟨b1, 0, none⟩), .pointer (some ⟨b2, 0, none⟩)]) (by kernel_rfl) ⟨b1, b2, rfl, elP_of (xs := [.slice xa T.length xc, .slice xb R.length xd, .slice xe F.length xf, .int .i64 lab]) (by rw [upd_ne _ _ hne, upd_same]) rfl, elP_of (xs := [.slice ya ss.length yc]) (upd_same _ _ _) rfl⟩
 refine Fn0.weak hc.giveAll ?_
 rintro r u' ⟨u1, m1, _, l2, b1, b2, e, h1, h2⟩
 exact ⟨b1, b2, e, h1.mono l2, h2.mono l2⟩
end Go.Proofs.YtpdboaedoimahaaGreatDoor
end
section
set_option linter.unusedSectionVars false
set_option linter.unusedVariables false
namespace Go.Proofs.YtpdboaedoimahaaGreatDoor
open Go.RowKit Go.MapKept
def nmA (j : Nat) : List UInt8 := [97] ++ [letC j]
def nmR (j : Nat) : List UInt8 := [114] ++ [letC j]
theorem namesA {n : Nat} (h : n ≤ 6) : Names ((List.range n).map nmA) := by
 have h2 : ∀ n : Fin 7, (((List.range n.val).map nmA).all wordB && decide ((List.range n.val).map nmA).Nodup) = true := by decide +kernel
 exact names_of (h2 ⟨n, by omega⟩)
theorem namesR {n : Nat} (h : n ≤ 6) : Names ((List.range n).map nmR) := by
 have h2 : ∀ n : Fin 7, (((List.range n.val).map nmR).all wordB && decide ((List.range n.val).map nmR).Nodup) = true := by decide +kernel
 exact names_of (h2 ⟨n, by omega⟩)
structure TOK (T : List (List UInt8 × Nat)) : Prop where
 nm : T.map (·.1) = (List.range T.length).map nmA
 kd : ∀ a ∈ T, 1 ≤ a.2 ∧ a.2 ≤ 3
 le : T.length ≤ 6
theorem TOK.nil : TOK [] := ⟨rfl, fun a ha => by simp at ha, by simp⟩
theorem TOK.snoc {T : List (List UInt8 × Nat)} (h : TOK T) {k : Nat} (h1 : 1 ≤ k) (h3 : k ≤ 3) (hl : T.length < 6) : TOK (T ++ [(nmA T.length, k)]) := by
 refine ⟨?_, fun a ha => ?_, by simp; omega⟩
 ·rw [List.map_append, h.nm, List.length_append, List.length_singleton, List.range_succ, List.map_append]; rfl
 ·rcases List.mem_append.1 ha with e | e
  ·exact h.kd a e
  ·obtain rfl := List.mem_singleton.1 e
   exact ⟨h1, h3⟩
theorem TOK.att {T : List (List UInt8 × Nat)} (h : TOK T) : AttOK T := ⟨by rw [h.nm]; exact namesA h.le, h.kd⟩
structure LOK (l : List Nat) (n : Nat) : Prop where
 asc : l.Pairwise (· < ·)
 lt : ∀ a ∈ l, a < n
 len : l.length ≤ n
theorem LOK.nil : LOK [] 0 := ⟨List.Pairwise.nil, fun a ha => by simp at ha, by simp⟩
theorem LOK.up {l : List Nat} {n : Nat} (h : LOK l n) : LOK l (n + 1) := ⟨h.asc, fun a ha => by have := h.lt a ha; omega, by have := h.len; omega⟩
theorem LOK.snoc {l : List Nat} {n : Nat} (h : LOK l n) : LOK (l ++ [n]) (n + 1) := by
 refine ⟨List.pairwise_append.2 ⟨h.asc, List.pairwise_singleton _ _, fun a ha b hb => ?_⟩, fun a ha => ?_, by simp; have := h.len; omega⟩
 ·obtain rfl := List.mem_singleton.1 hb
  exact h.lt a ha
 ·rcases List.mem_append.1 ha with e | e
  ·have := h.lt a e; omega
  ·obtain rfl := List.mem_singleton.1 e; omega
theorem LOK.zero {n : Nat} (h : 0 < n) : LOK [0] n := ⟨List.pairwise_singleton _ _, fun a ha => by
 obtain rfl := List.mem_singleton.1 ha; exact h, by simp; omega⟩
structure ROK (u : PH) (n : Nat) (R : List SRel) : Prop where
 nm : R.map (·.1) = (List.range R.length).map nmR
 ne : ∀ r ∈ R, r.2.1 ≠ []
 ok : ∀ r ∈ R, LOK r.2.1 n
 all : ∀ a < n, ∃ r ∈ R, a ∈ r.2.1
 at' : ∀ r ∈ R, ListP u (.slice r.2.2.1 r.2.1.length r.2.2.2) 1 (intsV r.2.1)
theorem ROK.nil {u : PH} : ROK u 0 [] := ⟨rfl, fun a ha => by simp at ha, fun a ha => by simp at ha, fun a ha => by omega, fun a ha => by simp at ha⟩
theorem ROK.mono {u u' : PH} {n : Nat} {R : List SRel} (h : ROK u n R) (hl : PH.le u u') : ROK u' n R := ⟨h.nm, h.ne, h.ok, h.all, fun r hr => (h.at' r hr).mono hl⟩
theorem ROK.snoc {u : PH} {n n' : Nat} {R : List SRel} (h : ROK u n R) (hn : n ≤ n') {l : List Nat} {a : Option Addr} {c : Nat} (hl : LOK l n') (hne : l ≠ []) (hall : ∀ a, n ≤ a → a < n' → a ∈ l) (hat : ListP u (.slice a l.length c) 1 (intsV l)) : ROK u n' (R ++ [(nmR R.length, l, (a, c))]) := by
 refine ⟨?_, fun r hr => ?_, fun r hr => ?_, fun a ha => ?_, fun r hr => ?_⟩
 ·rw [List.map_append, h.nm, List.length_append, List.length_singleton, List.range_succ, List.map_append]; rfl
 ·rcases List.mem_append.1 hr with e | e
  ·exact h.ne r e
  ·obtain rfl := List.mem_singleton.1 e
   exact hne
 ·rcases List.mem_append.1 hr with e | e
  ·have := h.ok r e
   exact ⟨this.asc, fun a ha => by have := this.lt a ha; omega, by have := this.len; omega⟩
  ·obtain rfl := List.mem_singleton.1 e
   exact hl
 ·rcases Nat.lt_or_ge a n with e | e
  ·obtain ⟨r, hr, hm⟩ := h.all a e
   exact ⟨r, List.mem_append_left _ hr, hm⟩
  ·exact ⟨_, List.mem_append_right _ (List.mem_singleton.2 rfl), hall a e ha⟩
 ·rcases List.mem_append.1 hr with e | e
  ·exact h.at' r e
  ·obtain rfl := List.mem_singleton.1 e
   exact hat
theorem ROK.rel {u : PH} {n : Nat} {R : List SRel} (h : ROK u n R) (hn : n ≤ 6) (hR : R.length ≤ 6) : RelOK u n R := by
 refine ⟨by rw [h.nm]; exact namesR hR, h.ne, fun r hr => (h.ok r hr).lt, fun r hr => by have := (h.ok r hr).len; omega, fun r hr k x y hx hy => ?_, h.all, h.at'⟩
 obtain ⟨h1, rfl⟩ := List.getElem?_eq_some_iff.1 hx
 obtain ⟨h2, rfl⟩ := List.getElem?_eq_some_iff.1 hy
 exact List.pairwise_iff_getElem.1 (h.ok r hr).asc k (k + 1) h1 h2 (by omega)
structure FOK (T : List (List UInt8 × Nat)) (F : List Feat) (lab : Int) (a : Nat) : Prop where
 feat : FeatOK T F lab
 lt : ∀ f ∈ F, f.1 < a
 len : F.length ≤ a
 l1 : -1 ≤ lab
 l2 : ∀ l : Nat, lab = (l : Int) → l < a ∧ ∃ n, T[l]? = some (n, 2)
theorem FOK.nil {T : List (List UInt8 × Nat)} : FOK T [] (-1) 0 := ⟨⟨fun f hf => by simp at hf, by simp⟩, fun f hf => by simp at hf, by simp, by omega, fun l hl => by omega⟩
theorem FOK.skip {T : List (List UInt8 × Nat)} {F : List Feat} {lab : Int} {a : Nat} (h : FOK T F lab a) : FOK T F lab (a + 1) := ⟨h.feat, fun f hf => by have := h.lt f hf; omega, by have := h.len; omega, h.l1, fun l hl => by
 obtain ⟨h1, h2⟩ := h.l2 l hl
 exact ⟨by omega, h2⟩⟩
theorem FOK.lab {T : List (List UInt8 × Nat)} {F : List Feat} {lab : Int} {a : Nat} {n : List UInt8} (h : FOK T F lab a) (ha : T[a]? = some (n, 2)) : FOK T F (a : Int) (a + 1) := by
 refine ⟨⟨fun f hf => ?_, h.feat.nodup⟩, fun f hf => by have := h.lt f hf; omega, by have := h.len; omega, by omega, fun l hl => ?_⟩
 ·obtain ⟨n, k, h1, h2, h3⟩ := h.feat.ok f hf
  exact ⟨n, k, h1, h2, by have := h.lt f hf; omega⟩
 ·obtain rfl : l = a := by omega
  exact ⟨by omega, n, ha⟩
theorem FOK.put {T : List (List UInt8 × Nat)} {F : List Feat} {lab : Int} {a k : Nat} {n : List UInt8} {g : Nat × Nat} (h : FOK T F lab a) (ha : T[a]? = some (n, k)) (hg : (g.1 = 1 ∧ k = 2 ∧ g.2 ≤ 1) ∨ (g.1 = 2 ∧ k = 3 ∧ g.2 = 0)) : FOK T (F ++ [(a, g)]) lab (a + 1) := by
 refine ⟨⟨fun f hf => ?_, ?_⟩, fun f hf => ?_, by simp; have := h.len; omega, h.l1, fun l hl => ?_⟩
 ·rcases List.mem_append.1 hf with e | e
  ·exact h.feat.ok f e
  ·obtain rfl := List.mem_singleton.1 e
   refine ⟨n, k, ha, hg, fun e => ?_⟩
   have := (h.l2 a e.symm).1
   omega
 ·rw [List.map_append]
  refine List.nodup_append.2 ⟨h.feat.nodup, by simp, fun x hx y hy => ?_⟩
  obtain ⟨f, hf, rfl⟩ := List.mem_map.1 hx
  have := h.lt f hf
  simp at hy
  omega
 ·rcases List.mem_append.1 hf with e | e
  ·have := h.lt f e; omega
  ·obtain rfl := List.mem_singleton.1 e
   show a < a + 1
   omega
 ·obtain ⟨h1, h2⟩ := h.l2 l hl
  exact ⟨by omega, h2⟩
theorem sch_ok {u : PH} {T : List (List UInt8 × Nat)} {R : List SRel} {F : List Feat} {lab : Int} (hT : TOK T) (hR : ROK u T.length R) (hF : FOK T F lab T.length) (h0 : 0 < T.length) (h1 : 0 < R.length) (h2 : R.length ≤ 6) : SchOK u T R F lab :=
 ⟨hT.att, hR.rel hT.le h2, hF.feat, h0, by have := hT.le; omega, h1, h2, by have := hF.len; have := hT.le; omega, hF.l1, fun l hl => (hF.l2 l hl).2⟩
def aArr (a : Option Addr) (c : Nat) (T : List (List UInt8 × Nat)) : Arr := ⟨.slice a T.length c, 61, 2, T.map attV⟩
def rArr (a : Option Addr) (c : Nat) (R : List SRel) : Arr := ⟨.slice a R.length c, 74, 2, R.map relV⟩
def fArr (a : Option Addr) (c : Nat) (F : List Feat) : Arr := ⟨.slice a F.length c, 64, 3, F.map featV⟩
def iArr (a : Option Addr) (c : Nat) (l : List Nat) : Arr := ⟨.slice a l.length c, 3, 1, intsV l⟩
theorem aArr_at {a : Option Addr} {c : Nat} {T : List (List UInt8 × Nat)} {m0 m : PH} : (aArr a c T).At m0 m = ArrAt m0 m (.slice a T.length c) 61 2 (T.map attV) := rfl
theorem rArr_at {a : Option Addr} {c : Nat} {R : List SRel} {m0 m : PH} : (rArr a c R).At m0 m = ArrAt m0 m (.slice a R.length c) 74 2 (R.map relV) := rfl
theorem fArr_at {a : Option Addr} {c : Nat} {F : List Feat} {m0 m : PH} : (fArr a c F).At m0 m = ArrAt m0 m (.slice a F.length c) 64 3 (F.map featV) := rfl
theorem iArr_at {a : Option Addr} {c : Nat} {l : List Nat} {m0 m : PH} : (iArr a c l).At m0 m = ArrAt m0 m (.slice a l.length c) 3 1 (intsV l) := rfl
theorem attV_ok (x : List UInt8 × Nat) : ElsOK 2 [attV x] := by
 intro e he
 simp at he; subst he
 exact ⟨rfl, fun y hy => by simp [attV, Value.cells] at hy; rcases hy with rfl | rfl <;> rfl⟩
theorem relV_ok (x : SRel) : ElsOK 2 [relV x] := by
 intro e he
 simp at he; subst he
 exact ⟨rfl, fun y hy => by simp [relV, Value.cells] at hy; rcases hy with rfl | rfl <;> rfl⟩
theorem featV_ok (x : Feat) : ElsOK 3 [featV x] := by
 intro e he
 simp at he; subst he
 exact ⟨rfl, fun y hy => by simp [featV, Value.cells] at hy; rcases hy with rfl | rfl | rfl <;> rfl⟩
end Go.Proofs.YtpdboaedoimahaaGreatDoor
end
section
set_option linter.unusedSectionVars false
set_option linter.unusedVariables false
namespace Go.Proofs.YtpdboaedoimahaaGreatDoor
variable [Flag]
open Go.RowKit
section
variable {P : Program} {id : Nat} {ops : Array Oper} {dr : Bool} {Fin : S → PH → PH → Prop} {c : Cx} {Q : Exit → Act → World → Prop}
theorem Ob.append {l2 : List Nat} : ∀ {l1 : List Nat} {s : S} {u m : PH}, Ob P id ops dr (fun s u m => Ob P id ops dr Fin l2 s u m) l1 s u m → Ob P id ops dr Fin (l1 ++ l2) s u m
 | [], s, u, m, h => by
  cases h with
  | nil h => exact h
 | i :: l1, s, u, m, h => by
  cases h with
  | auto ho hg hd he hl => exact .auto ho hg hd he hl.append
  | skip ho hg hd hl => exact .skip ho hg hd hl.append
  | ask ho hg hd hv hs hal hw hl => exact .ask ho hg hd hv hs hal hw hl.append
  | big ho hg hd hv hs hf hk hw hl => exact .big ho hg hd hv hs hf hk hw fun v u' m' h1 h2 => (hl v u' m' h1 h2).append
theorem Ob.fin {Fin' : S → PH → PH → Prop} (hf : ∀ s u m, Fin s u m → Fin' s u m) : ∀ {l : List Nat} {s : S} {u m : PH}, Ob P id ops dr Fin l s u m → Ob P id ops dr Fin' l s u m
 | [], s, u, m, h => by
  cases h with
  | nil h => exact .nil (hf _ _ _ h)
 | i :: l1, s, u, m, h => by
  cases h with
  | auto ho hg hd he hl => exact .auto ho hg hd he (hl.fin hf)
  | skip ho hg hd hl => exact .skip ho hg hd (hl.fin hf)
  | ask ho hg hd hv hs hal hw hl => exact .ask ho hg hd hv hs hal hw (hl.fin hf)
  | big ho hg hd hv hs hf' hk hw hl => exact .big ho hg hd hv hs hf' hk hw fun v u' m' h1 h2 => (hl v u' m' h1 h2).fin hf
structure Left (ops : Array Oper) (listed : Array Bool) (T : List Nat) : Prop where
 sz : listed.size = ops.size
 mem : ∀ i, i < ops.size → (listed.getD i true = false ↔ i ∈ T)
 lt : ∀ i ∈ T, i < ops.size
 nd : T.Nodup
 cl : Closed ops listed
theorem ready_iff {listed : Array Bool} {i : Nat} : i ∈ Region.ready .any ops listed ↔ i < ops.size ∧ listed.getD i true = false ∧ ∃ o, ops[i]? = some o ∧ ∀ e ∈ o.after, Region.binds .any e = true → listed.getD e.on false = true := by
 simp only [Region.ready, List.mem_filter, List.mem_range, Bool.and_eq_true, Bool.not_eq_true']
 refine and_congr_right fun hi => and_congr_right fun _ => ?_
 have ho : ops[i]? = some ops[i] := Array.getElem?_eq_getElem hi
 rw [ho]
 simp only [Option.map_some, Option.getD_some, Array.all_eq_true', Option.some.injEq, exists_eq_left', Bool.or_eq_true, Bool.not_eq_true']
 constructor
 ·intro h e he hb
  rcases h e he with h | h
  ·rw [hb] at h; cases h
  ·exact h
 ·intro h e he
  cases hb : Region.binds .any e with
  | false => exact .inl rfl
  | true => exact .inr (h e he hb)
theorem Left.no {listed : Array Bool} {T : List Nat} (h : Left ops listed T) {x : Nat} (hx : x ∈ T) : listed.getD x false = true → False := by
 intro hl
 have hxl := h.lt x hx
 have := (h.mem x hxl).2 hx
 have h3 : x < listed.size := by have := h.sz; omega
 simp only [Array.getD_eq_getD_getElem?, Array.getElem?_eq_getElem h3, Option.getD_some] at hl this
 rw [this] at hl; cases hl
theorem Left.next {listed : Array Bool} {A B : List Nat} {i : Nat} (h : Left ops listed (A ++ i :: B)) {o : Oper} (ho : ops[i]? = some o) (hpre : ∀ e ∈ o.after, Region.binds .any e = true → listed.getD e.on false = true) : Left ops (listed.setIfInBounds i true) (A ++ B) := by
 obtain ⟨hsz, hT, hTl, hnd, hcl⟩ := h
 have hlt : i < listed.size := by rw [hsz]; exact hTl i (by simp)
 have hnd' : (A ++ B).Nodup ∧ i ∉ A ++ B := by
  rw [List.nodup_append] at hnd ⊢
  simp only [List.nodup_cons, List.mem_cons, List.mem_append] at hnd ⊢
  obtain ⟨n1, ⟨n2, n3⟩, n4⟩ := hnd
  exact ⟨⟨n1, n3, fun x hx y hy => n4 x hx y (.inr hy)⟩, fun h => h.elim (fun h => n4 i h i (.inl rfl) rfl) n2⟩
 refine ⟨by simpa using hsz, fun j hj => ?_, fun j hj => hTl j ?_, hnd'.1, ?_⟩
 ·by_cases hji : j = i
  ·subst hji
   simp only [Array.getD_eq_getD_getElem?, Array.getElem?_setIfInBounds_self_of_lt hlt, Option.getD_some]
   exact ⟨fun h => absurd h (by simp), fun h => absurd h hnd'.2⟩
  ·have := hT j hj
   simp only [Array.getD_eq_getD_getElem?, Array.getElem?_setIfInBounds_ne (fun h => hji h.symm)] at this ⊢
   rw [this]
   simp [hji]
 ·simp only [List.mem_append, List.mem_cons] at hj ⊢
  rcases hj with h | h
  ·exact .inl h
  ·exact .inr (.inr h)
 ·intro j hj o' ho' e he hb
  have keep : ∀ k, listed.getD k false = true → (listed.setIfInBounds i true).getD k false = true := by
   intro k hk
   by_cases hki : k = i
   ·subst hki; simp only [Array.getD_eq_getD_getElem?, Array.getElem?_setIfInBounds_self_of_lt hlt, Option.getD_some]
   ·simp only [Array.getD_eq_getD_getElem?, Array.getElem?_setIfInBounds_ne (fun h => hki h.symm)] at hk ⊢; exact hk
  by_cases hji : j = i
  ·subst hji
   rw [ho] at ho'
   obtain rfl := Option.some.inj ho'
   exact keep _ (hpre e he hb)
  ·refine keep _ (hcl j ?_ o' ho' e he hb)
   simp only [Array.getD_eq_getD_getElem?, Array.getElem?_setIfInBounds_ne (fun h => hji h.symm)] at hj ⊢; exact hj
theorem Left.swaps {s0 : S} {listed : Array Bool} {T : List Nat} (h : Left ops listed T) {A : List Nat} {i : Nat} (hA : ∀ x ∈ A, x ∈ T) {o : Oper} (ho : ops[i]? = some o) (hpre : ∀ e ∈ o.after, Region.binds .any e = true → listed.getD e.on false = true) (hP : ∀ x ∈ A, pairB ops s0 x i = true) : ∀ x ∈ A, swapB ops s0 x i = true := by
 intro x hx
 have hp := hP x hx
 unfold pairB at hp
 simp only [Bool.and_eq_true, Bool.or_eq_true] at hp
 have hpi : ∀ o', ops[i]? = some o' → ∀ e ∈ o'.after, Region.binds .any e = true → listed.getD e.on false = true := fun o' ho' => by rw [ho] at ho'; obtain rfl := Option.some.inj ho'; exact hpre
 rcases hp.2 with (h' | h') | h'
 ·exact (h.no (hA x hx) (dir_listed hpi h')).elim
 ·exact h'
 ·exact (h.no (hA x hx) (bef_listed h.cl ops.size i hpi h')).elim
theorem Left.any {s0 : S} (hL0 : Live s0) (hE : (List.range ops.size).all (edgesB ops) = true) (hF : ∀ s u m ρ a w, Fin s u m → Rel c s u m ρ a w → Q .normal a w) {n : Nat} {T : List Nat} {listed : Array Bool} {s : S} {u m : PH} {ρ : Nat → Nat} {a : Act} {w : World} (h : Left ops listed T) (hn : T.length = n)
  (hP : T.Pairwise (fun x y => pairB ops s0 x y = true)) (hag : Agree ops s0 s) (hO : Ob P id ops true Fin T s u m) (hr : Rel c s u m ρ a w) : Go.wpAny P .any ops Q n listed a w :=
 Ob.wpAny hL0 hE hF n T listed hn h.sz h.mem h.lt h.nd h.cl hP hag hO hr
theorem Left.perm {listed : Array Bool} {T T' : List Nat} (h : Left ops listed T) (hp : T.Perm T') : Left ops listed T' :=
 ⟨h.sz, fun i hi => (h.mem i hi).trans hp.mem_iff, fun i hi => h.lt i (hp.mem_iff.2 hi), hp.nodup_iff.1 h.nd, h.cl⟩
theorem Left.first {listed : Array Bool} {t : Nat} {T : List Nat} (h : Left ops listed (t :: T)) (hE : (List.range ops.size).all (edgesB ops) = true) (hd : ∀ x ∈ T, dir ops t x = false) : t ∈ Region.ready .any ops listed := by
 have hp := h.lt t (by simp)
 refine ready_iff.2 ⟨hp, (h.mem t hp).2 (by simp), ops[t], Array.getElem?_eq_getElem hp, fun e he hb => ?_⟩
 rw [List.all_eq_true] at hE
 have hed := hE t (by simpa using hp)
 unfold edgesB at hed
 rw [Array.getElem?_eq_getElem hp] at hed
 simp only [List.all_eq_true] at hed
 have := hed e (by simpa using he)
 simp only [hb, Bool.not_true, Bool.false_or, Bool.and_eq_true, Bool.not_eq_true'] at this
 have hlt : e.on < ops.size := Nat.blt_eq ▸ this.1
 have hne : e.on ≠ t := fun h => by rw [h] at this; simp at this
 have hdir : dir ops t e.on = true := by
  unfold dir
  rw [Array.getElem?_eq_getElem hp]
  simp only [List.any_eq_true, Bool.and_eq_true]
  exact ⟨e, by simpa using he, hb, by simp⟩
 cases hl : listed.getD e.on true with
 | true =>
  have h1 : e.on < listed.size := by have := h.sz; omega
  simp only [Array.getD_eq_getD_getElem?, Array.getElem?_eq_getElem h1, Option.getD_some] at hl ⊢; exact hl
 | false =>
  have hm := (h.mem e.on hlt).1 hl
  rcases List.mem_cons.1 hm with hm | hm
  ·exact absurd hm hne
  ·rw [hd _ hm] at hdir; cases hdir
theorem pairB_dir {s0 : S} {x y : Nat} (h : pairB ops s0 x y = true) : dir ops x y = false := by
 unfold pairB at h
 simp only [Bool.and_eq_true, Bool.not_eq_true'] at h
 exact h.1.1
theorem Ob.wpAny2 {s0 : S} (hL0 : Live s0) (hE : (List.range ops.size).all (edgesB ops) = true) (hF : ∀ s u m ρ a w, Fin s u m → Rel c s u m ρ a w → Q .normal a w) {p q : Nat} {post : List Nat} (hpost : ∀ y ∈ post, bef ops ops.size y p = true) (hpq : dir ops p q = false) :
  ∀ (n : Nat) (pre : List Nat) (listed : Array Bool) {s : S} {u m : PH} {ρ : Nat → Nat} {a : Act} {w : World}, pre.length + (post.length + 2) = n → Left ops listed (pre ++ p :: q :: post) →
   (pre ++ p :: post).Pairwise (fun x y => pairB ops s0 x y = true) → (pre ++ q :: post).Pairwise (fun x y => pairB ops s0 x y = true) → Agree ops s0 s →
   Ob P id ops true (fun s u m => Ob P id ops true Fin (p :: q :: post) s u m ∧ Ob P id ops true Fin (q :: p :: post) s u m) pre s u m → Rel c s u m ρ a w → Go.wpAny P .any ops Q n listed a w := by
 intro n
 induction n with
 | zero => intro pre listed s u m ρ a w hlen; omega
 | succ n ih =>
  intro pre listed s u m ρ a w hlen hLeft hP1 hP2 hag hO hr
  refine ⟨fun hnil => ?_, fun i hi => ?_⟩
  ·exfalso
   cases pre with
   | nil =>
    have := hLeft.first hE fun x hx => by
     rcases List.mem_cons.1 hx with rfl | hx
     ·exact hpq
     ·exact pairB_dir (List.rel_of_pairwise_cons hP1 hx)
    rw [hnil] at this; cases this
   | cons t T' =>
    have := Left.first (t := t) (T := T' ++ p :: q :: post) hLeft hE fun x hx => by
     simp only [List.mem_append, List.mem_cons] at hx
     rcases hx with hx | rfl | rfl | hx
     ·exact pairB_dir (List.rel_of_pairwise_cons hP1 (by simp [hx]))
     ·exact pairB_dir (List.rel_of_pairwise_cons hP1 (by simp))
     ·exact pairB_dir (List.rel_of_pairwise_cons hP2 (by simp))
     ·exact pairB_dir (List.rel_of_pairwise_cons hP1 (by simp [hx]))
    rw [hnil] at this; cases this
  ·obtain ⟨h1, h2, o, ho, hpre⟩ := ready_iff.1 hi
   have hm := (hLeft.mem i h1).1 h2
   simp only [List.mem_append, List.mem_cons] at hm
   rcases hm with hm | hm | hm | hm
   ·obtain ⟨A, B, rfl⟩ := List.append_of_mem hm
    have hLeft' : Left ops listed (A ++ i :: (B ++ p :: q :: post)) := by
     rw [List.append_assoc] at hLeft; exact hLeft
    have hP1' : (A ++ i :: (B ++ p :: post)).Pairwise (fun x y => pairB ops s0 x y = true) := by
     rw [List.append_assoc] at hP1; exact hP1
    have hP2' : (A ++ i :: (B ++ q :: post)).Pairwise (fun x y => pairB ops s0 x y = true) := by
     rw [List.append_assoc] at hP2; exact hP2
    have hsw := hLeft'.swaps (A := A) (s0 := s0) (fun x hx => by simp [hx]) ho hpre fun x hx => (List.pairwise_append.1 hP1').2.2 x hx i (by simp)
    have hO' := Ob.bubble hL0 A hsw hr.lv hag hO
    refine wpOp_mono (fun a' w' ⟨s', u', m', ρ', r1, ra, r2⟩ => ?_) (hO'.step (Q := Q) hr)
    refine ih (A ++ B) _ (by simp at hlen ⊢; omega) (by rw [List.append_assoc]; exact hLeft'.next ho hpre) ?_ ?_ (hag.trans ra) r2 r1
    ·rw [List.append_assoc]
     exact hP1'.sublist (List.Sublist.append_left (List.sublist_cons_self i _) A)
    ·rw [List.append_assoc]
     exact hP2'.sublist (List.Sublist.append_left (List.sublist_cons_self i _) A)
   ·subst hm
    have hsw := hLeft.swaps (A := pre) (s0 := s0) (fun x hx => by simp [hx]) ho hpre fun x hx => (List.pairwise_append.1 hP1).2.2 x hx i (by simp)
    have hO' := Ob.bubble hL0 pre hsw hr.lv hag (Ob.append (l2 := i :: q :: post) (hO.fin fun s u m h => h.1))
    refine wpOp_mono (fun a' w' ⟨s', u', m', ρ', r1, ra, r2⟩ => ?_) (hO'.step (Q := Q) hr)
    exact (hLeft.next ho hpre).any hL0 hE hF (by simp; omega) hP2 (hag.trans ra) r2 r1
   ·subst hm
    have hLeft' : Left ops listed (pre ++ i :: p :: post) := hLeft.perm ((List.Perm.swap i p post).append_left pre)
    have hsw := hLeft'.swaps (A := pre) (s0 := s0) (fun x hx => by simp [hx]) ho hpre fun x hx => (List.pairwise_append.1 hP2).2.2 x hx i (by simp)
    have hO' := Ob.bubble hL0 pre hsw hr.lv hag (Ob.append (l2 := i :: p :: post) (hO.fin fun s u m h => h.2))
    refine wpOp_mono (fun a' w' ⟨s', u', m', ρ', r1, ra, r2⟩ => ?_) (hO'.step (Q := Q) hr)
    exact (hLeft'.next ho hpre).any hL0 hE hF (by simp; omega) hP1 (hag.trans ra) r2 r1
   ·exfalso
    exact hLeft.no (x := p) (by simp) (bef_listed hLeft.cl ops.size i (fun o' ho' => by rw [ho] at ho'; obtain rfl := Option.some.inj ho'; exact hpre) (hpost i hm))
def autoL (P : Program) (id : Nat) (ops : Array Oper) : List Nat → S → Option S
 | [], s => some s
 | i :: l, s => match ops[i]? with
  | some o => match dstOK s o with
   | true => match gv s ops o with
    | some true => match eff P (id * 1000 + i) s o.op with
     | some (x, hw) => autoL P id ops l ((s.put o.dst x).setb hw)
     | none => none
    | some false => autoL P id ops l (s.put o.dst (.v undef))
    | none => none
   | false => none
  | none => none
theorem Ob.autos : ∀ {l : List Nat} {s s' : S} {u m : PH}, autoL P id ops l s = some s' → Fin s' u m → Ob P id ops dr Fin l s u m
 | [], s, s', u, m, h, hf => by
  unfold autoL at h
  cases h
  exact .nil hf
 | i :: l, s, s', u, m, h, hf => by
  unfold autoL at h
  split at h
  ·rename_i o ho
   split at h
   ·rename_i hd
    split at h
    ·rename_i hg
     split at h
     ·rename_i x hw he
      exact .auto ho hg hd he (Ob.autos h hf)
     ·cases h
    ·rename_i hg
     exact .skip ho hg hd (Ob.autos h hf)
    ·cases h
   ·cases h
  ·cases h
def reg2B (ops : Array Oper) (s : S) (pre : List Nat) (p q : Nat) (post : List Nat) : Bool :=
 Nat.beq (pre.length + (post.length + 2)) ops.size && (List.range ops.size).all (fun i => (pre ++ p :: q :: post).contains i) && (pre ++ p :: q :: post).all (fun i => Nat.blt i ops.size) && pairsB ops s (pre ++ p :: post) && pairsB ops s (pre ++ q :: post) &&
  (List.range ops.size).all (edgesB ops) && post.all (fun y => bef ops ops.size y p) && !dir ops p q && !Nat.beq p q
end
section
variable {P : Program} {fn : Func} {Post : Spec}
theorem nodup_of_pairs {ops : Array Oper} {s : S} {T : List Nat} (h : T.Pairwise (fun x y => pairB ops s x y = true)) : T.Nodup := by
 refine h.imp fun {x y} hxy e => ?_
 unfold pairB at hxy
 subst e
 simp at hxy
theorem Sym.reg_two (hm : P.follows .mixedOrders = true) {id : Nat} {ops : Array Oper} {pre post : List Nat} {p q : Nat} {s : S} (hB : reg2B ops s pre p q post = true) {k : List KI} {u m : PH}
  (h : Ob P id ops true (fun s u m => Ob P id ops true (SymC P fn Post k) (p :: q :: post) s u m ∧ Ob P id ops true (SymC P fn Post k) (q :: p :: post) s u m) pre s u m) : SymC P fn Post (.code (.region id ops true) :: k) s u m := by
 intro c ρ a w hm0 hr
 simp only [cont, Exit.then]
 unfold reg2B at hB
 simp only [Bool.and_eq_true, Bool.not_eq_true'] at hB
 obtain ⟨⟨⟨⟨⟨⟨⟨⟨b1, b2⟩, b3⟩, b4⟩, b5⟩, b6⟩, b7⟩, b8⟩, b9⟩ := hB
 have b1 := Nat.eq_of_beq_eq_true b1
 rw [List.all_eq_true] at b2 b3 b7
 have P1 := pairsB_spec b4
 have P2 := pairsB_spec b5
 have n1 := nodup_of_pairs P1
 have n2 := nodup_of_pairs P2
 have hne : p ≠ q := fun e => by rw [e] at b9; simp at b9
 refine wp_region_any hm ?_
 refine Ob.wpAny2 (c := c) hr.lv b6 (fun s u m ρ a w hf hr => hf c ρ a w hm0 hr) b7 b8 _ pre _ b1 ⟨by simp, fun i hi => ?_, fun i hi => Nat.blt_eq ▸ b3 i hi, ?_, fun i hi => ?_⟩ P1 P2 (Agree.refl _ _) h hr.drew
 ·have := b2 i (by simpa using hi)
  rw [List.contains_iff_mem] at this
  simp only [Array.getD_eq_getD_getElem?, Array.getElem?_replicate, hi, if_true, Option.getD_some]
  exact ⟨fun _ => this, fun _ => trivial⟩
 ·rw [List.nodup_append] at n1 n2 ⊢
  simp only [List.nodup_cons, List.mem_cons] at n1 n2 ⊢
  obtain ⟨a1, ⟨a2, a3⟩, a4⟩ := n1
  obtain ⟨c1, ⟨c2, c3⟩, c4⟩ := n2
  refine ⟨a1, ⟨fun e => e.elim hne a2, c2, c3⟩, fun x hx y hy => ?_⟩
  rcases hy with rfl | rfl | hy
  ·exact a4 x hx _ (.inl rfl)
  ·exact c4 x hx _ (.inl rfl)
  ·exact a4 x hx _ (.inr hy)
 ·exfalso
  simp only [Array.getD_eq_getD_getElem?] at hi
  by_cases hlt : i < ops.size
  ·simp [hlt] at hi
  ·rw [Array.getElem?_eq_none (by simp; omega)] at hi; simp at hi
def bothB (P : Program) (pre : List Nat) (p q : Nat) (post : List Nat) (st : List KI × S) : Bool := match st with
 | (.code (.region id ops true) :: k, s) => reg2B ops s pre p q post && (autoL P id ops pre s).isSome
 | _ => false
def bothS (P : Program) (pre l : List Nat) (st : List KI × S) : List KI × S := match st with
 | (.code (.region id ops true) :: k, s) => match autoL P id ops pre s with
  | some s' => (.reg id ops true l :: k, s')
  | none => st
 | _ => st
end
section rules
variable {P : Program} [Mixed P] {fn : Func} {Post : Spec} {st : List KI × S} {u m : PH}
theorem G.both (pre : List Nat) (p q : Nat) (post : List Nat) (h : bothB P pre p q post (adv P st) = true) (k1 : G P fn Post (bothS P pre (p :: q :: post) (adv P st)) u m) (k2 : G P fn Post (bothS P pre (q :: p :: post) (adv P st)) u m) : G P fn Post st u m := by
 refine G.stp ⟨?_⟩
 generalize adv P st = st' at h k1 k2
 unfold bothB at h
 split at h
 ·rename_i id ops k s
  rw [Bool.and_eq_true] at h
  obtain ⟨h1, h2⟩ := h
  obtain ⟨s', hs'⟩ := Option.isSome_iff_exists.1 h2
  have e : ∀ l, bothS P pre l (.code (.region id ops true) :: k, s) = (.reg id ops true l :: k, s') := fun l => by unfold bothS; simp only [hs']
  rw [e] at k1 k2
  exact Sym.reg_two Mixed.mx h1 (Ob.autos hs' ⟨k1.out, k2.out⟩)
 ·cases h
end rules
end Go.Proofs.YtpdboaedoimahaaGreatDoor
end
section
set_option linter.unusedSectionVars false
set_option linter.unusedVariables false
namespace Go.Proofs.YtpdboaedoimahaaGreatDoor
open Go.RowKit Go.MapKept
structure AllF (F : Fence) : Prop where
 fn : ∀ f, F.fn f
 dep : F.depth.isSome = false
 calls : ∀ {P : Program} {f : FuncId} {args : Array Value} {w : World} {R : Ending → World → Prop}, Calls P f args w R → CallsIn F 0 P f args w R
theorem allF_wide : AllF Fence.wide := ⟨fun _ => trivial, rfl, fun h => callsIn_wide.2 h⟩
theorem allF_round (l : Nat) : AllF (Fence.wide.inRound l) := ⟨fun _ => trivial, rfl, fun h => (callsIn_wide (n := 0)).2 h⟩
def isDefer : Op → Bool
 | .defer _ => true
 | _ => false
def noDefer (ops : Array Oper) : Bool := ops.toList.all fun o => !isDefer o.op
theorem noDefer_at {ops : Array Oper} (h : noDefer ops = true) {i : Nat} {o : Oper} (ho : ops[i]? = some o) : ∀ c, o.op ≠ .defer c := fun c e => by
 unfold noDefer at h
 rw [List.all_eq_true] at h
 have := h o (Array.mem_toList_iff.2 (Array.mem_of_getElem? ho))
 rw [e] at this; simp [isDefer] at this
section
variable {P : Program} {id : Nat} {ops : Array Oper} {dr : Bool} {Fin : S → PH → PH → Prop} {c : Cx} {Q : Exit → Act → World → Prop} {F : Fence}
theorem wpIn_does {a : Act} {o : Oper} {w w' : World} {y : Value} {K : Act → World → Prop} (hF : AllF F) (hn : ∀ c, o.op ≠ .defer c) (h : Does P a o w y w') (hk : K (a.put o.dst y) w') : o.wpIn F 0 P a w K Q := by
 unfold Oper.wpIn
 refine ⟨fun f _ => hF.fn f, ?_⟩
 rw [Oper.semAt_plain F _ _ hn]
 rcases h with h | ⟨h, rfl⟩ <;> rw [h] <;> exact hk
theorem opDoesIn {a : Act} {o : Oper} {w : World} {s : S} {u m : PH} {ρ : Nat → Nat} {K : Value → World → Prop} {K' : Act → World → Prop} (hF : AllF F) (hn : ∀ c, o.op ≠ .defer c) (hr : Rel c s u m ρ a w) (hv : allV s o.op = true) (hs : notSel o.op = true)
  (h : OpDoes P (envOf s) o w K) (hk : ∀ v w', K v w' → K' (a.put o.dst v) w') : o.wpIn F 0 P a w K' Q := by
 unfold Oper.wpIn
 refine ⟨fun f _ => hF.fn f, ?_⟩
 rw [Oper.semAt_plain F _ _ hn, execOp_env hr (notSel_ne hs) hv]
 unfold OpDoes at h
 split at h
 ·rename_i v w' e; rw [e]; exact hk _ _ h
 ·rename_i w' e; rw [e]; exact hk _ _ h
 ·rename_i f args w' e
  rw [e]
  refine ⟨fun hh => (by rw [hF.dep] at hh; cases hh), hF.calls (Calls.mono h fun e' w'' he => ?_)⟩
  obtain ⟨v, rfl, h2⟩ := he
  exact hk _ _ h2
 ·exact h.elim
theorem Rel.after {s : S} {u m u' m' : PH} {ρ : Nat → Nat} {a : Act} {w w' : World} (hr : Rel c s u m ρ a w) (g1 : Good u' m' w') (g2 : Grown u m w u' m' w') {d : Option Nat} (hd : ∀ e, d = some e → e < s.n) (v : Value) : Rel c (s.put d (.v v)) u' m' ρ (a.put d v) w' := by
 refine Rel.put (x := .v v) ?_ (fun _ => rfl) (by simp) hd
 refine ⟨hr.sz, hr.tm, hr.df.of fun r e _ hu hm => ⟨by rw [g2.old _ (lt_of_at e) hm]; exact e, by rw [g2.us _ (lt_of_at e)]; exact hu, g2.ms _ (lt_of_at e) hm⟩, fun k b hb => ?_, hr.inj, hr.lv, g1, hr.gr.trans g2⟩
 obtain ⟨e1, e2, e3, e4⟩ := hr.box k b hb
 have hlt : ρ k < w.heap.size := by obtain ⟨cs, e, _⟩ := e1; exact lt_of_at e
 refine ⟨?_, e2, ?_, ?_⟩
 ·rw [g2.old _ hlt e4]; exact e1
 ·rw [g2.us _ hlt]; exact e3
 ·exact g2.ms _ hlt e4
theorem Ob.wpOpsIn (hF : AllF F) (hnd : noDefer ops = true) {rest : List Nat} (hfin : ∀ s u m ρ a w, Fin s u m → Rel c s u m ρ a w → Go.wpOpsIn F 0 P ops Q rest a w) :
  ∀ {l : List Nat} {s : S} {u m : PH} {ρ : Nat → Nat} {a : Act} {w : World}, Ob P id ops dr Fin l s u m → Rel c s u m ρ a w → Go.wpOpsIn F 0 P ops Q (l ++ rest) a w
 | [], s, u, m, ρ, a, w, h, hr => by
  cases h with
  | nil h => exact hfin _ _ _ _ _ _ h hr
 | i :: l, s, u, m, ρ, a, w, h, hr => by
  rw [List.cons_append, wpOpsIn_cons]
  cases h with
  | auto ho hg hd he hl =>
   simp only [wpOpIn, ho, gv_wanted hr hg, if_true]
   obtain ⟨ρ', w', y, h1, h2⟩ := eff_sound (P := P) hr he (dst_lt hd)
   exact wpIn_does hF (noDefer_at hnd ho) h1 (Ob.wpOpsIn hF hnd hfin hl h2)
  | skip ho hg hd hl =>
   simp only [wpOpIn, ho, gv_wanted hr hg, if_false, Bool.false_eq_true]
   exact ⟨fun f _ => hF.fn f, Ob.wpOpsIn hF hnd hfin hl (hr.put (x := .v undef) (fun _ => rfl) (by simp) (dst_lt hd))⟩
  | ask ho hg hd hv hs hal hw hl =>
   simp only [wpOpIn, ho, gv_wanted hr hg, if_true]
   refine wpIn_does hF (noDefer_at hnd ho) (.inl ?_) (Ob.wpOpsIn hF hnd hfin hl (hr.put (fun _ => rfl) (by simp) (dst_lt hd)))
   rw [execOp_env hr (notSel_ne hs) hv]
   exact hw w (fun _ => ⟨hr.gd.pu, hr.gd.pm⟩)
  | big ho hg hd hv hs hf hk hw hl =>
   simp only [wpOpIn, ho, gv_wanted hr hg, if_true]
   refine opDoesIn hF (noDefer_at hnd ho) hr hv hs (hw w hr.gd) fun v w' ⟨u', m', g1, g2, g3⟩ => ?_
   exact Ob.wpOpsIn hF hnd hfin (hl v u' m' (g2.le hr.gd.pu) g3) (hr.after g1 g2 (dst_lt hd) v)
end
def yv (s : S) (ops : Array Oper) (i : Nat) : Option (Nat × List Value) := match ops[i]? with
 | some o => match dstOK s o && (allV s o.op && notSel o.op) with
  | true => match gv s ops o with
   | some true => match o.op with
    | .call c => match c.callee with
     | .value f => match envOf s f with
      | .func (.yield l) first cap => some (l, first.toList ++ c.args.toList.map (envOf s))
      | _ => none
     | _ => none
    | _ => none
   | _ => none
  | false => none
 | none => none
def ysk (s : S) (ops : Array Oper) (i : Nat) : Bool := match ops[i]? with
 | some o => match dstOK s o with
  | true => match gv s ops o with
   | some false => true
   | _ => false
  | false => false
 | none => false
def YieldC (P : Program) (l : Nat) (args : List Value) (u m : PH) (K : Value → PH → PH → Prop) : Prop :=
 ∀ w, Good u m w → YieldAt Fence.wide 0 P l args.toArray w fun e w' => ∃ v u' m', e = .returned v ∧ Good u' m' w' ∧ Grown u m w u' m' w' ∧ K v u' m'
theorem yv_spec {s : S} {ops : Array Oper} {i l : Nat} {args : List Value} (h : yv s ops i = some (l, args)) : ∃ o, ops[i]? = some o ∧ gv s ops o = some true ∧ dstOK s o = true ∧ allV s o.op = true ∧ notSel o.op = true ∧
  ∀ (P : Program) (w : World), (execOp (envOf s) o).run P w = (Instr.yield l args.toArray).run P w := by
 unfold yv at h
 split at h
 ·rename_i o ho
  split at h
  ·rename_i hc
   simp only [Bool.and_eq_true] at hc
   split at h
   ·rename_i hg
    split at h
    ·rename_i c hop
     split at h
     ·rename_i f hcal
      split at h
      ·rename_i l' first cap he
       simp only [Option.some.injEq, Prod.mk.injEq] at h
       obtain ⟨rfl, rfl⟩ := h
       refine ⟨o, ho, hg, hc.1, hc.2.1, hc.2.2, fun P w => ?_⟩
       obtain ⟨dst, opp, type, pos, after, guard⟩ := o
       simp only at hop; subst hop
       have ea : (first.toList ++ c.args.toList.map (envOf s)).toArray = first ++ c.args.map (envOf s) := by apply Array.ext'; simp
       rw [ea]
       simp [execOp, resolve, hcal, he, Deferred.ofValue, invoke]
      ·cases h
     ·cases h
    ·cases h
   ·cases h
  ·cases h
 ·cases h
theorem ysk_spec {s : S} {ops : Array Oper} {i : Nat} (h : ysk s ops i = true) : ∃ o, ops[i]? = some o ∧ gv s ops o = some false ∧ dstOK s o = true := by
 unfold ysk at h
 split at h
 ·rename_i o ho
  split at h
  ·rename_i hd
   split at h
   ·rename_i hg; exact ⟨o, ho, hg, hd⟩
   ·cases h
  ·cases h
 ·cases h
def yB (pre : List Nat) (i : Nat) (post : List Nat) (st : List KI × S) : Bool := match st.1 with
 | .code (.region _ ops false) :: _ => Nat.beq ops.size (pre.length + 1 + post.length) && (List.range ops.size).zipIdx.all (fun x => (pre ++ i :: post)[x.2]? == some x.1) && noDefer ops
 | _ => false
def yOps (st : List KI × S) : Array Oper := match st.1 with
 | .code (.region _ ops false) :: _ => ops
 | _ => #[]
def yS (pre : List Nat) (J : S → PH → PH → Prop) (st : List KI × S) : List KI × S := match st.1 with
 | .code (.region id ops false) :: k => (.reg id ops false pre :: .lp J :: k, st.2)
 | _ => st
def yNext (i : Nat) (post : List Nat) (st : List KI × S) (s : S) (v : Value) : List KI × S := match st.1 with
 | .code (.region id ops false) :: k => match ops[i]? with
  | some o => (.reg id ops false post :: k, s.put o.dst (.v v))
  | none => st
 | _ => st
section rules
variable {P : Program} [Mixed P] {fn : Func} {Post : Spec} {st : List KI × S} {u m : PH}
theorem G.yreg (pre : List Nat) (i : Nat) (post : List Nat) (h : yB pre i post (meet P 200 st) = true)
  (kk : ∀ J : S → PH → PH → Prop,
   (∀ s' u' m', ysk s' (yOps (meet P 200 st)) i = true → G P fn Post (yNext i post (meet P 200 st) s' undef) u' m' → J s' u' m') →
   (∀ s' u' m' l args (K : Value → PH → PH → Prop), yv s' (yOps (meet P 200 st)) i = some (l, args) → YieldC P l args u' m' K → (∀ v u'' m'', PH.le u' u'' → K v u'' m'' → G P fn Post (yNext i post (meet P 200 st) s' v) u'' m'') → J s' u' m') →
   G P fn Post (yS pre J (meet P 200 st)) u m) : G P fn Post st u m := by
 refine ⟨meet_sound 200 st ?_⟩
 generalize meet P 200 st = st' at h kk
 obtain ⟨ks, s⟩ := st'
 unfold yB at h
 simp only at h
 split at h
 ·rename_i id ops k
  simp only [Bool.and_eq_true] at h
  obtain ⟨⟨h1, h2⟩, hnd⟩ := h
  have hl : List.range ops.size = pre ++ i :: post := by
   refine List.ext_getElem? fun j => ?_
   rw [List.all_eq_true] at h2
   by_cases hj : j < ops.size
   ·have := h2 (j, j) (by
     refine List.mem_of_getElem? (i := j) ?_
     rw [List.getElem?_zipIdx]; simp [hj])
    simp only [beq_iff_eq] at this
    rw [this]; simp [hj]
   ·have e1 := Nat.eq_of_beq_eq_true h1
    rw [List.getElem?_eq_none (by simp; omega), List.getElem?_eq_none (by simp; omega)]
  intro c ρ a w hm0 hr
  simp only [cont, Exit.then]
  refine (wpIn_wide (n := 0)).1 (wpIn_region ?_)
  rw [hl]
  have hob := (kk (fun s' u' m' => (∃ o, ops[i]? = some o ∧ gv s' ops o = some false ∧ dstOK s' o = true ∧ Ob P id ops false (SymC P fn Post k) post (s'.put o.dst (.v undef)) u' m') ∨
    ∃ (o : Oper) (l : Nat) (args : List Value) (K : Value → PH → PH → Prop), ops[i]? = some o ∧ gv s' ops o = some true ∧ dstOK s' o = true ∧ allV s' o.op = true ∧ notSel o.op = true ∧ (∀ (P : Program) (w : World), (execOp (envOf s') o).run P w = (Instr.yield l args.toArray).run P w) ∧ YieldC P l args u' m' K ∧
     ∀ v u'' m'', PH.le u' u'' → K v u'' m'' → Ob P id ops false (SymC P fn Post k) post (s'.put o.dst (.v v)) u'' m'')
   (fun s' u' m' hs hg => by
    obtain ⟨o, ho, e1, e2⟩ := ysk_spec hs
    have ho : ops[i]? = some o := ho
    have := hg.out
    simp only [yNext] at this
    rw [ho] at this
    exact .inl ⟨o, ho, e1, e2, this⟩)
   (fun s' u' m' l args K hy hc hg => by
    obtain ⟨o, ho, e1, e2, e3, e4, e5⟩ := yv_spec hy
    have ho : ops[i]? = some o := ho
    refine .inr ⟨o, l, args, K, ho, e1, e2, e3, e4, e5, hc, fun v u'' m'' h1 h2 => ?_⟩
    have := (hg v u'' m'' h1 h2).out
    simp only [yNext] at this
    rw [ho] at this
    exact this)).out
  refine Ob.wpOpsIn allF_wide hnd (fun s1 u1 m1 ρ1 a1 w1 hf hr1 => ?_) hob hr
  obtain ⟨s2, u2, m2, ρ2, hr2, hJ⟩ := hf c ρ1 a1 w1 hm0 hr1
  rw [wpOpsIn_cons]
  have fin : ∀ (s u m ρ a w), SymC P fn Post k s u m → Rel c s u m ρ a w → Go.wpOpsIn Fence.wide 0 P ops (cont P fn Post c k) [] a w := fun s u m ρ a w hf hr => hf c ρ a w hm0 hr
  rcases hJ with ⟨o, ho, e1, e2, e3⟩ | ⟨o, l, args, K, ho, e1, e2, e3, e4, e5, e6, e7⟩
  ·simp only [wpOpIn, ho, gv_wanted hr2 e1, if_false, Bool.false_eq_true]
   refine ⟨fun f _ => trivial, ?_⟩
   have := Ob.wpOpsIn allF_wide hnd fin e3 (hr2.put (x := .v undef) (fun _ => rfl) (by simp) (dst_lt e2))
   rwa [List.append_nil] at this
  ·simp only [wpOpIn, ho, gv_wanted hr2 e1, if_true]
   unfold Oper.wpIn
   refine ⟨fun f _ => trivial, ?_⟩
   rw [Oper.semAt_plain _ _ _ (noDefer_at hnd ho), execOp_env hr2 (notSel_ne e4) e3, e5]
   obtain ⟨fn', tmps, assign, body, hy, hR⟩ := e6 w1 hr2.gd
   rw [hy]
   refine ⟨fun hh => (by cases hh), hR.mono fun e w' he => ?_⟩
   obtain ⟨v, u', m', rfl, g1, g2, g3⟩ := he
   have := Ob.wpOpsIn allF_wide hnd fin (e7 v u' m' (g2.le hr2.gd.pu) g3) (hr2.after g1 g2 (dst_lt e2) v)
   rwa [List.append_nil] at this
 ·cases h
theorem regIn {F : Fence} (hF : AllF F) {id : Nat} {ops : Array Oper} (hnd : noDefer ops = true) {J : S → PH → PH → Prop} {s : S} {c : Cx} {ρ : Nat → Nat} {a : Act} {w : World} {Q : Exit → Act → World → Prop}
  (h : G P fn Post ([.reg id ops false (List.range ops.size), .lp J], s) u m) (hr : Rel c s u m ρ a w) (hm0 : c.m0 = Post.m0) (hQ : ∀ s u m ρ a w, Rel c s u m ρ a w → J s u m → Q .normal a w) : (Code.region id ops false).wpIn F 0 P Q a w := by
 refine wpIn_region ?_
 have := Ob.wpOpsIn (rest := []) hF hnd (Q := Q) (fun s1 u1 m1 ρ1 a1 w1 hf hr1 => by
  obtain ⟨s2, u2, m2, ρ2, hr2, hJ⟩ := hf c ρ1 a1 w1 hm0 hr1
  exact hQ _ _ _ _ _ _ hr2 hJ) h.out hr
 rwa [List.append_nil] at this
end rules
def S.ofT (n : Nat) (T : List (Nat × Value)) : S := { n := n, tm := fun d => match T.find? (fun x => Nat.beq x.1 d) with | some x => .v x.2 | none => .junk, hp := fun _ => none }
theorem Rel.start {u m : PH} {w : World} (h : Good u m w) {tmps : Array Value} {T : List (Nat × Value)} (hT : ∀ x ∈ T, tmps[x.1]? = some x.2) : Rel ⟨w, u, m⟩ (S.ofT tmps.size T) u m (fun _ => 0) { tmps := tmps, defers := [] } w := by
 refine ⟨rfl, fun d hd => ?_, DfOK.nil _ _ _ _, fun k b hb => (by cases hb), fun k j hk => absurd rfl hk, ⟨fun d k off hd => ?_, fun j b k off hb => (by cases hb)⟩, h, ⟨Nat.le_refl _, fun _ _ _ => rfl, fun _ _ => rfl, fun _ _ h => h, ⟨rfl, rfl⟩, fun _ => ⟨rfl, Nat.le_refl _⟩⟩⟩
 ·unfold S.ofT at hd ⊢
  simp only at hd ⊢
  split
  ·rename_i x hx
   have := hT x (List.mem_of_find?_eq_some hx)
   have e := List.find?_some hx
   rw [← Nat.eq_of_beq_eq_true e]; exact this
  ·rename_i hx; rw [hx] at hd; exact absurd rfl hd
 ·unfold S.ofT at hd
  simp only at hd
  split at hd <;> cases hd
theorem Good.putO {u m : PH} {w : World} (h : Good u m w) {g : Nat} {o o' : Obj} (hg : m g = some o) (hn : notCells o' = true) : Good u (m.upd g o') (w.putObj g o') ∧ Grown u m w u (m.upd g o') (w.putObj g o') := by
 have := h.setO hg hn
 rwa [show setW w g o' = w.putObj g o' from rfl] at this
end Go.Proofs.YtpdboaedoimahaaGreatDoor
end
section
set_option linter.unusedSectionVars false
set_option linter.unusedVariables false
namespace Go.Proofs.YtpdboaedoimahaaGreatDoor
open Go.RowKit Go.MapKept
theorem ElP.sub {u : PH} {b off : Nat} {e x : Value} {k : Nat} (h : ElP u b off e) (hx : ∀ i y, x.cells[i]? = some y → e.cells[k + i]? = some y) : ElP u b (off + k) x := fun i y hy => by
 obtain ⟨cs, t, fr, h1, h2⟩ := h (k + i) y (hx i y hy)
 exact ⟨cs, t, fr, h1, by rw [Nat.add_assoc]; exact h2⟩
set_option maxHeartbeats 4000000 in
theorem entries1 {u m : PH} {l b1 b2 : Nat} {v tv : Value} {T : List (List UInt8 × Nat)} {R : List SRel} {F : List Feat} {lab : Int} {ss : List (List UInt8)} (h : TupP u v tv T R F lab ss) (hb1 : ElP u b1 0 v) (hb2 : ElP u b2 0 tv) (J : List (Par × Rat) → PH → PH → Prop)
  (hJu : ∀ L u' u'' m', PH.le u' u'' → J L u' m' → J L u'' m')
  (hY : ∀ (i : Nat) (x : Par × Rat) u' m', i < F.length → PH.le u u' → J (vecL F ss i) u' m' → x ∈ vecL F ss F.length → x.1.1 = (i : Int) → YieldC Tryz.prog l [parV x.1, .string (mkS (ratT x.2))] u' m' fun r u'' m'' => r = .bool true ∧ J (vecL F ss i ++ [x]) u'' m'')
  (h0 : J [] u m) : Contract Tryz.prog 85 [.func (.yield l) #[] #[], .pointer (some ⟨b1, 0, none⟩), .pointer (some ⟨b2, 0, none⟩)] u m fun _ u' m' => J (vecL F ss F.length) u' m' := by
 obtain ⟨⟨xa, xc, xb, xd, xe, xf, rfl, hTL, hRL, hFL⟩, ok, hS, hT⟩ := h
 obtain ⟨ya, yc, rfl⟩ := hS.opn
 rw [List.length_map] at hS hb2
 have hf8 := ok.f2
 have hfeat := ok.feat
 have e2 : ElP u b1 (0 + 2) (.slice xe F.length xf) := hb1.sub (k := 2) fun i y hy => by
  match i, hy with
  | 0, hy => simpa [Value.cells] using hy
  | i + 1, hy => simp [Value.cells] at hy
 refine Contract.of Tryz.func85 (by kernel_rfl) (by kernel_rfl) ?_
 refine G.fieldA 30 b1 0 2 2 (by kernel_rfl) (by kernel_rfl) ?_
 refine G.loadU none b1 (0 + 2) (.slice xe F.length xf) (by kernel_rfl) (by kernel_rfl) e2 ?_
 refine G.loop (ι := Nat) (fun i => [(0, .v (.func (.yield l) #[] #[])), (2, .v (.pointer (some ⟨b2, 0, none⟩))), (9, .v (.slice xe F.length xf)), (10, .v (.int .i64 (F.length : Int))), (11, .v (.int .i64 (i : Int)))]) (fun _ => [])
  (fun i u' m' => i ≤ F.length ∧ J (vecL F ss i) u' m') (fun i => F.length - i) 0 (by kernel_rfl) (fun _ => by kernel_rfl) ⟨by kernel_rfl, by kernel_rfl, by kernel_rfl⟩ ⟨by omega, h0⟩ ?_
 rintro Jl i hJ u1 m1 l1 ⟨hi, hJi⟩
 by_cases hil : i < F.length
 ·refine G.lssT (i : Int) (F.length : Int) (by kernel_rfl) (by omega) ?_
  have hFi : F[i]? = some F[i] := List.getElem?_eq_getElem hil
  have hfm := List.getElem_mem hil
  have hfl := feat_at hfeat hT hfm
  have hsucc := vecL_succ (ss := ss) hFi
  have hnt := fun h2 h0 => num_text hfeat hT hfm h2 h0
  have hin : ∀ x, vecO ss i F[i] = some x → x ∈ vecL F ss F.length := fun x hx => mem_vecL.2 ⟨i, F[i], hil, hFi, hx⟩
  obtain ⟨fb, fo, rfl, ef⟩ := ListP.at' (hFL.mono l1) (j := i) (e := featV F[i]) (by simp [hFi])
  have step := fun (x : Par × Rat) (hx : vecO ss i F[i] = some x) (u' m' : PH) (hl : PH.le u1 u') (hj : J (vecL F ss i) u' m') => hY i x u' m' hil (l1.trans hl) hj (hin x hx) (vecO_key hx)
  have keep : vecO ss i F[i] = none → vecL F ss (i + 1) = vecL F ss i := fun e => by rw [hsucc, e]; simp
  have gain : ∀ x, vecO ss i F[i] = some x → vecL F ss (i + 1) = vecL F ss i ++ [x] := fun x e => by rw [hsucc, e]; simp
  clear hsucc hin
  generalize F[i] = f at hFi hfm hfl hnt ef step keep gain
  obtain ⟨f1, f2, f3⟩ := f
  simp only at hfl hnt
  refine G.addr fb fo F.length xf i 3 (by kernel_rfl) hil ?_
  refine G.loadU (some 3) fb (fo + i * 3) (.agg #[.int .i64 (f1 : Int), .int .i64 (f2 : Int), .int .i64 (f3 : Int)]) (by kernel_rfl) (by kernel_rfl) ef ?_
  refine G.loadU none b2 0 (.slice ya ss.length yc) (by kernel_rfl) (by kernel_rfl) (hb2.mono l1) ?_
  obtain ⟨b, off, rfl, e⟩ := text_at (hS.mono l1) hfl
  refine G.addr b off ss.length yc f1 1 (by kernel_rfl) hfl ?_
  refine G.loadU none b (off + f1 * 1) (.string (mkS (ss.getD f1 []))) (by kernel_rfl) (by kernel_rfl) e ?_
  by_cases hk2 : f2 = 2
  ·subst hk2
   have hv : vecO ss i (f1, 2, f3) = some (((i : Int), ss.getD f1 []), 1) := by unfold vecO; rw [if_pos rfl]
   refine G.eqlT ((2 : Nat) : Int) 2 (by kernel_rfl) (by omega) ?_
   refine G.loadU none b2 0 (.slice (some ⟨b, off, none⟩) ss.length yc) (by kernel_rfl) (by kernel_rfl) (hb2.mono l1) ?_
   refine G.addr b off ss.length yc f1 1 (by kernel_rfl) hfl ?_
   refine G.loadU none b (off + f1 * 1) (.string (mkS (ss.getD f1 []))) (by kernel_rfl) (by kernel_rfl) e ?_
   refine G.yreg [0, 1, 2, 3, 4, 5, 6, 7, 8, 9] 10 [11, 12] (by kernel_rfl) ?_
   intro Jy hsk hyi
   refine G.neST [49] [] (by kernel_rfl) (by simp) ?_
   refine G.neST [49] [48] (by kernel_rfl) (by simp) ?_
   have hy := step _ hv u1 m1 (PH.le_refl _) hJi
   rw [ratT_one] at hy
   refine G.back (by kernel_rfl) (hyi _ _ _ l _ _ (by kernel_rfl) hy ?_)
   rintro v2 u2 m2 l2 ⟨rfl, hJ2⟩
   rw [← gain _ hv] at hJ2
   refine G.add (i : Int) 1 ((i + 1 : Nat) : Int) (by kernel_rfl) (by omega) (by omega) (by omega) ?_
   exact G.back (by kernel_rfl) (hJ (i + 1) _ _ _ ⟨by kernel_rfl, by kernel_rfl, by kernel_rfl⟩ (l1.trans l2) ⟨by omega, hJ2⟩ (by omega))
  ·refine G.eqlF (f2 : Int) 2 (by kernel_rfl) (by omega) ?_
   have hvd : vecO ss i (f1, f2, f3) = if ss.getD f1 [] = [] ∨ ss.getD f1 [] = [48] then none else some (((i : Int), []), numT (ss.getD f1 [])) := by unfold vecO; rw [if_neg hk2]
   have hnt := hnt hk2
   generalize ss.getD f1 [] = w at hvd hnt e
   by_cases hw0 : w = []
   ·subst hw0
    rw [if_pos (.inl rfl)] at hvd
    refine G.yreg [0, 1, 2, 3, 4, 5, 6, 7, 8, 9] 10 [11, 12] (by kernel_rfl) ?_
    intro Jy hsk hyi
    refine G.neSF [] [] (by kernel_rfl) rfl ?_
    refine G.back (by kernel_rfl) (hsk _ _ _ (by kernel_rfl) ?_)
    rw [← keep hvd] at hJi
    refine G.add (i : Int) 1 ((i + 1 : Nat) : Int) (by kernel_rfl) (by omega) (by omega) (by omega) ?_
    exact G.back (by kernel_rfl) (hJ (i + 1) _ _ _ ⟨by kernel_rfl, by kernel_rfl, by kernel_rfl⟩ l1 ⟨by omega, hJi⟩ (by omega))
   ·by_cases hw1 : w = [48]
    ·subst hw1
     rw [if_pos (.inr rfl)] at hvd
     refine G.yreg [0, 1, 2, 3, 4, 5, 6, 7, 8, 9] 10 [11, 12] (by kernel_rfl) ?_
     intro Jy hsk hyi
     refine G.neST [48] [] (by kernel_rfl) (by simp) ?_
     refine G.neSF [48] [48] (by kernel_rfl) rfl ?_
     refine G.back (by kernel_rfl) (hsk _ _ _ (by kernel_rfl) ?_)
     rw [← keep hvd] at hJi
     refine G.add (i : Int) 1 ((i + 1 : Nat) : Int) (by kernel_rfl) (by omega) (by omega) (by omega) ?_
     exact G.back (by kernel_rfl) (hJ (i + 1) _ _ _ ⟨by kernel_rfl, by kernel_rfl, by kernel_rfl⟩ l1 ⟨by omega, hJi⟩ (by omega))
    ·rw [if_neg (fun e => e.elim hw0 hw1)] at hvd
     refine G.yreg [0, 1, 2, 3, 4, 5, 6, 7, 8, 9] 10 [11, 12] (by kernel_rfl) ?_
     intro Jy hsk hyi
     refine G.neST w [] (by kernel_rfl) hw0 ?_
     refine G.neST w [48] (by kernel_rfl) hw1 ?_
     have hy := step _ hvd u1 m1 (PH.le_refl _) hJi
     rw [(hnt hw0).2] at hy
     refine G.back (by kernel_rfl) (hyi _ _ _ l _ _ (by kernel_rfl) hy ?_)
     rintro v2 u2 m2 l2 ⟨rfl, hJ2⟩
     rw [← gain _ hvd] at hJ2
     refine G.add (i : Int) 1 ((i + 1 : Nat) : Int) (by kernel_rfl) (by omega) (by omega) (by omega) ?_
     exact G.back (by kernel_rfl) (hJ (i + 1) _ _ _ ⟨by kernel_rfl, by kernel_rfl, by kernel_rfl⟩ (l1.trans l2) ⟨by omega, hJ2⟩ (by omega))
 ·obtain rfl : i = F.length := by omega
  refine G.lssF (F.length : Int) (F.length : Int) (by kernel_rfl) (by omega) ?_
  exact G.ret (.tuple #[]) (by kernel_rfl) hJi
end Go.Proofs.YtpdboaedoimahaaGreatDoor
end
