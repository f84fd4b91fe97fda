/- Joined out of parts of one proof by a program: contracts of the functions that the statement reaches, and the plain facts behind them. -/
import Derived.Test.YtikfmknnbjocmaaGreatDoorKC08
import Derived.RangeFuncSeq
import Derived.RangeFuncGives
import Derived.Maps.AppendAt
import Derived.Shelf.Abstract
import Derived.Shelf.AbstractIn
import Derived.Sort.MapsRangeIn
import Derived.WalkKit
import Derived.OwnWalkIn
import Derived.TacticsInMore
import Derived.RegionIn
import Derived.LoopNIn
import Derived.LoopIn
import Derived.Shelf.SlIter.Collect
import Derived.Shelf.SlSortCmp.WholeK
import Derived.Ground.SlsfProg
import Derived.Test.YtikfmknnbjocmaaGreatDoorProg
import Derived.Shelf.SlSortCmp.NoneTotal
set_option linter.unusedVariables false
set_option linter.unusedSimpArgs false
set_option linter.unusedSectionVars false
section
set_option linter.unusedSectionVars false
set_option linter.unusedVariables false
namespace Go.Proofs.YtikfmknnbjocmaaGreatDoor
open Go.RowKit Go.MapKept
def termV (p : Par × Rat) : Value := .agg #[.int .i64 p.1.1, .string (mkS p.1.2), .string (mkS (ratT p.2))]
def prtV (x : (Par × Par) × Rat) : Value := .agg #[.int .i64 x.1.1.1, .string (mkS x.1.1.2), .int .i64 x.1.2.1, .string (mkS x.1.2.2), .string (mkS (ratT x.2))]
def CofP (u : PH) (v : Value) (F : CF) (K : Nat) : Prop :=
  ∃ (T : List (Par × Rat)) (Q : List ((Par × Par) × Rat)) (a1 : Option Addr) (c1 : Nat) (a2 : Option Addr) (c2 : Nat), v = .agg #[.string (mkS (ratT F.c)), .slice a1 T.length c1, .slice a2 Q.length c2] ∧
    ListP u (.slice a1 T.length c1) 3 (T.map termV) ∧ ListP u (.slice a2 Q.length c2) 5 (Q.map prtV) ∧ Can cmpP F.s T ∧ Can cmpQ F.t Q ∧ T.length ≤ K ∧ Q.length ≤ K
theorem CofP.mono {u u' : PH} {v : Value} {F : CF} {K : Nat} (h : CofP u v F K) (hl : PH.le u u') : CofP u' v F K := by
  obtain ⟨T, Q, a1, c1, a2, c2, e, h1, h2, h3⟩ := h
  exact ⟨T, Q, a1, c1, a2, c2, e, h1.mono hl, h2.mono hl, h3⟩
section
variable {κ : Type} [DecidableEq κ]
theorem assocQ_snoc {l : List (κ × Rat)} {a : κ} {q : Rat} (h : a ∉ l.map (·.1)) : (fun k => assocQ k (l ++ [(a, q)])) = setF (fun k => assocQ k l) a q := by
  funext k
  unfold setF
  induction l with
  | nil => simp [assocQ]
  | cons p l ih =>
    obtain ⟨b, r⟩ := p
    simp only [List.map_cons, List.mem_cons, not_or] at h
    simp only [List.cons_append, assocQ]
    by_cases hk : k = b
    · rw [if_pos hk, if_pos hk, if_neg (fun e => h.1 (by rw [← e, hk]))]
    · rw [if_neg hk, if_neg hk]; exact ih h.2
theorem Can.fn {c : κ → κ → Int} (hc : Ord c) {f : κ → Rat} {l : List (κ × Rat)} (h : Can c f l) : ∀ k, assocQ k l = f k := fun k => by
  by_cases hk : k ∈ l.map (·.1)
  · obtain ⟨p, hp, rfl⟩ := List.mem_map.1 hk
    rw [assocQ_mem (h.srt.nodup hc) (q := p.2) hp]; exact (h.val p hp).1
  · rw [assocQ_not hk, h.out k hk]
theorem take_new {l : List (κ × Rat)} {i : Nat} {p : κ × Rat} (hn : (l.map (·.1)).Nodup) (hi : l[i]? = some p) : p.1 ∉ (l.take i).map (·.1) := by
  intro hm
  obtain ⟨q, hq, e⟩ := List.mem_map.1 hm
  obtain ⟨j, hj, rfl⟩ := List.mem_iff_getElem.1 hq
  have hji : j < i := by simp at hj; omega
  obtain ⟨hil, rfl⟩ := List.getElem?_eq_some_iff.1 hi
  rw [List.getElem_take] at e
  have := List.pairwise_iff_getElem.1 hn j i (by simp; omega) (by simpa using hil) hji
  simp only [List.getElem_map] at this
  exact this e
end
theorem MapR.snoc {κ : Type} [DecidableEq κ] {enc : κ → Value} {u : PH} {o o' : Obj} {T : List (κ × Rat)} {p : κ × Rat} {x : Value} {l : List (κ × Value)} {N : Nat} (ho : MapO enc o l) (h2 : ∀ y ∈ l, FracP u y.2 (assocQ y.1 T) ∧ (true = true → assocQ y.1 T ≠ 0) ∧ Sz (assocQ y.1 T) 12) (h3 : ∀ k, k ∉ l.map (·.1) → assocQ k T = 0) (h4 : l.length ≤ N)
    (h' : MapO enc o' (putK p.1 x l)) (hx : FracP u x p.2) (hp : p.1 ∉ T.map (·.1)) (h0 : p.2 ≠ 0) (hs : SB p.2) : MapR enc FracP true u o' (fun k => assocQ k (T ++ [p])) (N + 1) 12 := by
  obtain ⟨a, q⟩ := p
  rw [assocQ_snoc hp]
  exact MapR.put (f := fun k => assocQ k T) ho h2 h3 h4 h' hx (fun _ => h0) hs.sz (Nat.le_refl _)
abbrev zvL : List SV := [.v (.bool false), .v (.slice none 0 0), .v (.bool false), .v (.slice none 0 0), .v (.map none), .v (.map none)]
set_option maxHeartbeats 4000000 in
theorem of0 {u : PH} {F : CF} {K : Nat} {v : Value} (hv : CofP u v F K) (sF : CFS F) (hK : K ≤ 1000000) :
    Contract Tryz.prog 45 [v] u PH.mt fun v' u' m' => MomM m' u' v' F K := by
  obtain ⟨T, Q, a1, c1, a2, c2, rfl, hT, hQ, cT, cQ, kT, kQ⟩ := hv
  have ndT := cT.srt.nodup ordP
  have ndQ := cQ.srt.nodup ordQ
  refine Contract.of Tryz.func45 (by kernel_rfl) (by kernel_rfl) ?_
  refine G.callO _ _ (by kernel_rfl) Tryz.call83 (whole0 (n := 0) (by omega) (by omega)) ?_
  rintro v1 u1 m1 l1 r1 _
  rw [mt_or]
  obtain ⟨b, a, n, c, b', a', n', c', g1, g2, o1, o2, rfl, h1, hne, rfl, h4, h5⟩ := r1
  refine G.call0 _ _ (by kernel_rfl) Tryz.call54 (fracRead0 (SB.tx sF.c)) ?_
  intro v2 u2 l2 r2
  obtain ⟨b2, x2, n2, d2, b2', x2', n2', d2', rfl⟩ := r2.opn
  refine G.loop (ι := Nat) (fun i => [(1, .p 0 0), (2, .p 1 0), (3, .p 1001 0), (14, .v (.slice a1 T.length c1)), (15, .v (.int .i64 (T.length : Int))), (16, .v (.int .i64 (i : Int)))])
    (fun _ => [(0, ⟨38, [.v (.string (mkS (ratT F.c))), .v (.slice a1 T.length c1), .v (.slice a2 Q.length c2)]⟩), (1, ⟨92, zvL⟩), (1001, ⟨92, [.v (.bool b2), .v (.slice x2 n2 d2), .v (.bool b2'), .v (.slice x2' n2' d2'), .v (.map (some g1)), .v (.map (some g2))]⟩)])
    (fun i u' m' => i ≤ T.length ∧ m' g2 = some o2 ∧ ∃ o1', m' g1 = some o1' ∧ MapR parV FracP true u' o1' (fun k => assocQ k (T.take i)) i 12)
    (fun i => T.length - i) 0 (by kernel_rfl) (fun _ => by kernel_rfl) ⟨by kernel_rfl, by kernel_rfl, by kernel_rfl⟩
    ⟨by omega, upd_same _ _ _, o1, by rw [upd_ne _ _ hne, upd_same], (h4.mf l2).congr fun k => by simp [assocQ]⟩ ?_
  rintro J i hJ u3 m3 l3 ⟨hi, hg2, o1', hg1, hR⟩
  by_cases hlt : i < T.length
  · refine G.lssT (i : Int) (T.length : Int) (by kernel_rfl) (by omega) ?_
    have hTi : T[i]? = some T[i] := List.getElem?_eq_getElem hlt
    obtain ⟨ba, oa, rfl, ea⟩ := ListP.at' (hT.mono ((l1.trans l2).trans l3)) (j := i) (e := termV T[i]) (by simp [hTi])
    obtain ⟨hval, h0⟩ := cT.val _ (List.getElem_mem hlt)
    have hs : SB T[i].2 := by rw [hval]; exact sF.s _
    refine G.addr ba oa T.length c1 i 3 (by kernel_rfl) (by omega) ?_
    refine G.loadU (some 3) ba (oa + i * 3) (.agg #[.int .i64 T[i].1.1, .string (mkS T[i].1.2), .string (mkS (ratT T[i].2))]) (by kernel_rfl) (by kernel_rfl) ea ?_
    refine G.call0 _ _ (by kernel_rfl) Tryz.call54 (fracRead0 hs.tx) ?_
    intro v4 u4 l4 r4
    obtain ⟨b4, x4, n4, d4, b4', x4', n4', d4', rfl⟩ := r4.opn
    obtain ⟨l, ho, q2, q3, q4⟩ := (hR.mf l4).at
    refine G.mapPut (et := 88) keyPar g1 o1' l T[i].1 (.agg #[.bool b4, .slice x4 n4 d4, .bool b4', .slice x4' n4' d4']) (by kernel_rfl) (by kernel_rfl) hg1 ho ?_
    intro o' ho'
    refine G.add (i : Int) 1 ((i + 1 : Nat) : Int) (by kernel_rfl) (by omega) (by omega) (by omega) ?_
    refine G.back (by kernel_rfl) (hJ (i + 1) _ _ _ ⟨by kernel_rfl, by kernel_rfl, by kernel_rfl⟩ (l3.trans l4) ⟨by omega, by rw [upd_ne _ _ (Ne.symm hne)]; exact hg2, o', upd_same _ _ _, ?_⟩ (by omega))
    rw [List.take_add_one, hTi]
    exact MapR.snoc ho q2 q3 q4 ho' r4 (take_new ndT hTi) h0 hs
  obtain rfl : i = T.length := by omega
  refine G.lssF (T.length : Int) (T.length : Int) (by kernel_rfl) (by omega) ?_
  have hR' : MapR parV FracP true u3 o1' F.s T.length 12 := by
    rw [List.take_length] at hR
    exact hR.congr (cT.fn ordP)
  refine G.loop (ι := Nat) (fun i => [(2, .p 1 0), (3, .p 1001 0), (29, .v (.slice a2 Q.length c2)), (30, .v (.int .i64 (Q.length : Int))), (31, .v (.int .i64 (i : Int)))])
    (fun _ => [(1, ⟨92, zvL⟩), (1001, ⟨92, [.v (.bool b2), .v (.slice x2 n2 d2), .v (.bool b2'), .v (.slice x2' n2' d2'), .v (.map (some g1)), .v (.map (some g2))]⟩)])
    (fun i u' m' => i ≤ Q.length ∧ m' g1 = some o1' ∧ ∃ o2', m' g2 = some o2' ∧ MapR prV FracP true u' o2' (fun k => assocQ k (Q.take i)) i 12)
    (fun i => Q.length - i) 0 (by kernel_rfl) (fun _ => by kernel_rfl) ⟨by kernel_rfl, by kernel_rfl, by kernel_rfl⟩
    ⟨by omega, hg1, o2, hg2, (h5.mf (l2.trans l3)).congr fun k => by simp [assocQ]⟩ ?_
  rintro J2 i hJ2 u5 m5 l5 ⟨hi2, hg15, o2', hg25, hR2⟩
  by_cases hlt : i < Q.length
  · refine G.lssT (i : Int) (Q.length : Int) (by kernel_rfl) (by omega) ?_
    have hQi : Q[i]? = some Q[i] := List.getElem?_eq_getElem hlt
    obtain ⟨ba, oa, rfl, ea⟩ := ListP.at' (hQ.mono (((l1.trans l2).trans l3).trans l5)) (j := i) (e := prtV Q[i]) (by simp [hQi])
    obtain ⟨hval, h0⟩ := cQ.val _ (List.getElem_mem hlt)
    have hs : SB Q[i].2 := by rw [hval]; exact sF.t _
    refine G.addr ba oa Q.length c2 i 5 (by kernel_rfl) (by omega) ?_
    refine G.loadU (some 5) ba (oa + i * 5) (.agg #[.int .i64 Q[i].1.1.1, .string (mkS Q[i].1.1.2), .int .i64 Q[i].1.2.1, .string (mkS Q[i].1.2.2), .string (mkS (ratT Q[i].2))]) (by kernel_rfl) (by kernel_rfl) ea ?_
    refine G.call0 _ _ (by kernel_rfl) Tryz.call54 (fracRead0 hs.tx) ?_
    intro v4 u4 l4 r4
    obtain ⟨b4, x4, n4, d4, b4', x4', n4', d4', rfl⟩ := r4.opn
    obtain ⟨l, ho, q2, q3, q4⟩ := (hR2.mf l4).at
    refine G.mapPut (et := 88) keyPr g2 o2' l Q[i].1 (.agg #[.bool b4, .slice x4 n4 d4, .bool b4', .slice x4' n4' d4']) (by kernel_rfl) (by kernel_rfl) hg25 ho ?_
    intro o' ho'
    refine G.add (i : Int) 1 ((i + 1 : Nat) : Int) (by kernel_rfl) (by omega) (by omega) (by omega) ?_
    refine G.back (by kernel_rfl) (hJ2 (i + 1) _ _ _ ⟨by kernel_rfl, by kernel_rfl, by kernel_rfl⟩ (l5.trans l4) ⟨by omega, by rw [upd_ne _ _ hne]; exact hg15, o', upd_same _ _ _, ?_⟩ (by omega))
    rw [List.take_add_one, hQi]
    exact MapR.snoc ho q2 q3 q4 ho' r4 (take_new ndQ hQi) h0 hs
  obtain rfl : i = Q.length := by omega
  refine G.lssF (Q.length : Int) (Q.length : Int) (by kernel_rfl) (by omega) ?_
  have hR2' : MapR prV FracP true u5 o2' F.t Q.length 12 := by
    rw [List.take_length] at hR2
    exact hR2.congr (cQ.fn ordQ)
  refine G.drop ((PH.mt.upd g1 o1').upd g2 o2') (by kernel_rfl) (fun g o hg => ?_) ?_
  · by_cases e : g = g2
    · subst e; rw [upd_same] at hg; cases hg; exact hg25
    · rw [upd_ne _ _ e] at hg
      by_cases e : g = g1
      · subst e; rw [upd_same] at hg; cases hg; exact hg15
      · rw [upd_ne _ _ e] at hg; cases hg
  exact G.ret (.agg #[.bool b2, .slice x2 n2 d2, .bool b2', .slice x2' n2' d2', .map (some g1), .map (some g2)]) (by kernel_rfl) ⟨b2, x2, n2, d2, b2', x2', n2', d2', g1, g2, o1', o2', rfl, r2.mono (l3.trans l5), hne, rfl, (hR'.mf l5).up kT (Nat.le_refl _), hR2'.up kQ (Nat.le_refl _)⟩
end Go.Proofs.YtikfmknnbjocmaaGreatDoor
end
section
set_option linter.unusedSectionVars false
set_option linter.unusedVariables false
namespace Go.Proofs.YtikfmknnbjocmaaGreatDoor
open Go.RowKit Go.MapKept Go.Shelf
section
variable {F : Fence} {n : Nat} {P : Program} [Mixed P] {w : World} {ops : Array Oper} {rest : List Oper} {o : Oper} {a : Act} {Q : Exit → Act → World → Prop}
theorem wpListIn_rangeM (hg : o.guard = none) (x : Operand) (t kt et : TypeId) (hop : o.op = Op.range t x) (ht : P.underlying t = some (.map kt et)) (g : Nat) (es : Array MapEntry) (clock : Nat) (hx : a.eval x = .map (some g)) (hm : w.heap[g]? = some (.map es clock))
    (hK : wpListIn F n P ops Q rest (a.put o.dst (.pointer (some ⟨w.heap.size, 0, none⟩))) (w.alloc (.mapIter (some g) clock (seenOf []) clock))) : wpListIn F n P ops Q (o :: rest) a w := by
  refine wpListIn_plain hg fun K' hK' => ?_
  have hr := run_range_map (P := P) w t kt et g es clock ht hm
  unfold Oper.wpIn
  refine ⟨by simp [Oper.about, hop], ?_⟩
  rw [Oper.semAt_plain F _ _ (by rw [hop]; intro c hc'; cases hc')]
  simp only [execOp, hop, hx]
  simp only [Sem.run_bind, hr, Result.andThen_ok]
  exact hK' _ _ hK
theorem wpListIn_nextM (hg : o.guard = none) (x : Operand) (hop : o.op = Op.next x false) (it g : Nat) (es : Array MapEntry) (clock : Nat) (D : List MapEntry) (hx : a.eval x = .pointer (some ⟨it, 0, none⟩)) (hi : w.heap[it]? = some (.mapIter (some g) clock (seenOf D) clock)) (hm : w.heap[g]? = some (.map es clock)) (hs : Stamped es clock) (hD : ItOK es D)
    (h0 : D.Perm es.toList → wpListIn F n P ops Q rest (a.put o.dst (.tuple #[.bool false])) w)
    (h1 : ∀ e w2, e ∈ es.toList → ItOK es (D ++ [e]) → w2.heap[it]? = some (.mapIter (some g) clock (seenOf (D ++ [e])) clock) → w.grownBy w2 (some it) → wpListIn F n P ops Q rest (a.put o.dst (.tuple #[.bool true, e.key, e.val])) w2) : wpListIn F n P ops Q (o :: rest) a w := by
  refine wpListIn_plain hg fun K' hK' => ?_
  unfold Oper.wpIn
  refine ⟨by simp [Oper.about, hop], ?_⟩
  rw [Oper.semAt_plain F _ _ (by rw [hop]; intro c hc'; cases hc')]
  rcases run_nextG (P := P) o.type hi hm hs with ⟨e0, hr⟩ | ⟨e, he, w1, hw1, hr⟩
  · simp only [execOp, hop, hx]
    simp only [Sem.run_bind, hr, Result.andThen_ok]
    exact hK' _ _ (h0 (done_perm hs hD e0))
  · simp only [execOp, hop, hx]
    simp only [Sem.run_bind, hr, Result.andThen_ok]
    have hh : w1.heap = w.heap := by rcases hw1 with rfl | rfl <;> rfl
    refine hK' _ _ (h1 e _ (mem_left he).1 (hD.snoc he) ?_ ⟨?_, ?_, ?_, ?_, fun k hk hne => ?_⟩)
    · exact setW_same (o := .mapIter (some g) clock (seenOf D) clock) (by rw [hh]; exact hi)
    · rcases hw1 with rfl | rfl <;> rfl
    · rcases hw1 with rfl | rfl <;> rfl
    · rcases hw1 with rfl | rfl <;> rfl
    · rw [setW_size, hh]; exact Nat.le_refl _
    · rw [setW_ne (fun e => hne (by rw [e])), hh]
theorem run_entryM {it g : Nat} {es : Array MapEntry} {clock : Nat} {D : List MapEntry} {e : MapEntry} (hi : w.heap[it]? = some (.mapIter (some g) clock (seenOf (D ++ [e])) clock)) (hm : w.heap[g]? = some (.map es clock)) (hs : Stamped es clock) (he : e ∈ es.toList) :
    (Instr.entry (.pointer (some ⟨it, 0, none⟩))).run P w = .ok (.tuple #[e.key, e.val]) w := by
  have hb : (seenOf (D ++ [e])).back? = some e.born := by simp [seenOf]
  have hf : es.find? (fun x => x.born == e.born) = some e := by rw [← Array.find?_toList]; exact find_born e es.toList hs.2.1 he
  simp only [Instr.entry, getObj, Sem.run_bind, Sem.run, hi, hm, Result.andThen, hb, bne_self_eq_false, Bool.false_eq_true, if_false, hf]
  rfl
end
def leftN (es : Array MapEntry) (it : Nat) (w : World) : Nat := match w.heap[it]? with | some (.mapIter _ _ seen _) => es.size - seen.size | _ => 0
theorem leftN_eq {es : Array MapEntry} {it g clock : Nat} {D : List MapEntry} {w : World} (h : w.heap[it]? = some (.mapIter (some g) clock (seenOf D) clock)) : leftN es it w = es.size - D.length := by
  unfold leftN; rw [h]; simp [seenOf]
theorem ItOK.lt {es : Array MapEntry} {D : List MapEntry} {e : MapEntry} (h : ItOK es (D ++ [e])) : D.length < es.size := by
  have := len_of_sub (·.born) h.nod h.sub
  simp at this; omega
end Go.Proofs.YtikfmknnbjocmaaGreatDoor
end
section
set_option linter.unusedSectionVars false
set_option linter.unusedVariables false
namespace Go.Proofs.YtikfmknnbjocmaaGreatDoor
open Go.RowKit Go.MapKept Go.Shelf
set_option maxRecDepth 100000 in
set_option maxHeartbeats 1000000 in
theorem keys1Pr (n l Bm g : Nat) (es : Array MapEntry) (clock : Nat) (lk : List ((Par × Par) × Value)) (J : List (Par × Par) → World → Prop) (hs : Stamped es clock) (hkv : es.toList.map (fun e => (e.key, e.val)) = lk.map (fun p => (prV p.1, p.2))) (hnd : (lk.map (·.1)).Nodup)
    (hY : ∀ pre x W, J pre W → pre.length < lk.length → YieldAt Fence.wide (n - 1) Tryz.prog l #[prV x] W fun e W' => e = .returned (.bool true) ∧ J (pre ++ [x]) W' ∧ KeepsWalks W W')
    (W : World) (hJ : AbidesFrom W.heap.size J) (hm : W.cell? ⟨Bm, 0, none⟩ = some (.map (some g))) (hg : W.heap[g]? = some (.map es clock)) (h0 : J [] W) :
    CallsIn Fence.wide n Tryz.prog 136 #[.func (.yield l) #[] #[], .pointer (some ⟨Bm, 0, none⟩)] W fun e W' => (∃ v, e = .returned v) ∧ ∃ ss : List (Par × Par), (ss.Nodup ∧ ∀ k, k ∈ ss ↔ k ∈ lk.map (·.1)) ∧ J ss W' := by
  have mixed : Tryz.prog.follows .mixedOrders = true := by kernel_rfl
  refine callsIn_of_wp Tryz.func136 rfl trivial ?_ rfl
  simp only [Tryz.ntmps136, List.size_toArray, List.length_cons, List.length_nil, Nat.reduceAdd, Nat.reduceSub, Array.replicate_succ, Array.replicate_zero, List.push_toArray, List.append_toArray, List.nil_append, List.cons_append]
  gi_wp2_with (first
    | (gi_at_range; refine wpListIn_rangeM rfl _ 90 144 88 rfl (by kernel_rfl) g es clock rfl hg ?_)
    | gi_in)
  go_frame
  gi_loopw [3] (fun _ wr => ∃ (D : List MapEntry) (L : List ((Par × Par) × Value)), wr.heap[W.heap.size]? = some (.mapIter (some g) clock (seenOf D) clock) ∧ Seen prV es lk D L ∧ wr.heap[g]? = some (.map es clock) ∧ W.heap.size ≤ wr.heap.size ∧ J (L.map (·.1)) wr)
    (fun _ wr => leftN es W.heap.size wr)
  case atStart =>
    refine ⟨[], [], heap_alloc_eq _ _, Seen.nil _ _, by rw [heap_alloc_lt _ _ (lt_of_at hg)]; exact hg, by rw [size_alloc']; omega, ?_⟩
    exact hJ [] W _ none h0 ⟨rfl, rfl, rfl, by rw [size_alloc']; omega, fun k hk _ => heap_alloc_lt _ _ hk⟩ (fun r e => by cases e)
  case round =>
    obtain ⟨D, L, hit, hS, hgr, hsz, hJs⟩ := hrel
    gi_wp2_with (first
      | (gi_at_next; refine wpListIn_nextM rfl _ rfl W.heap.size g es clock D rfl hit hgr hs hS.it ?_ ?_)
      | gi_in)
    · intro hp
      gi_wp2
      go_end0
      have hall := hS.all keyPr.inj hkv hp
      exact ⟨⟨_, rfl⟩, L.map (·.1), ⟨hS.nod, fun k => ⟨fun h => by
        obtain ⟨y, hy, rfl⟩ := List.mem_map.1 h
        exact List.mem_map.2 ⟨y, hS.sub y hy, rfl⟩, fun h => by
        obtain ⟨y, hy, rfl⟩ := List.mem_map.1 h
        exact List.mem_map.2 ⟨y, hall y hy, rfl⟩⟩⟩, hJs⟩
    · intro e w2 he0 hi hit2 hgb
      have he : e ∈ es.toList := by simpa using he0
      obtain ⟨p, hp, hek, hev, hnew, hS'⟩ := hS.snoc keyPr.inj hkv hnd he hi
      have hgw2 : w2.heap[g]? = some (.map es clock) := (hgb.block g (lt_of_at hgr) (fun e => by cases e; rw [hit] at hgr; cases hgr)).trans hgr
      have hen := run_entryM (P := Tryz.prog) hit2 hgw2 hs he
      rw [hek, hev, show prV p.1 = .agg #[.int .i64 p.1.1.1, .string (mkS p.1.1.2), .int .i64 p.1.2.1, .string (mkS p.1.2.2)] from rfl] at hen ⊢
      have hl2 := lt_of_at hit2
      have hlen := hS'.len
      simp only [List.length_append, List.length_cons, List.length_nil] at hlen
      have hJ2 : J (L.map (·.1)) w2 := hJ _ wr w2 (some W.heap.size) hJs hgb (fun r e => by cases e; exact ⟨Nat.le_refl _, _, hit, rfl⟩)
      have hJ3 : J (L.map (·.1)) (w2.alloc (.cells #[.int .i64 p.1.1.1, .string (mkS p.1.1.2), .int .i64 p.1.2.1, .string (mkS p.1.2.2)] 144)) := hJ _ w2 _ none hJ2 ⟨rfl, rfl, rfl, by rw [size_alloc']; omega, fun k hk _ => heap_alloc_lt _ _ hk⟩ (fun r e => by cases e)
      have hS2 : w2.heap.size ≥ W.heap.size := Nat.le_trans hsz hgb.size
      obtain ⟨fn, tmps, assign, body, hy, hR⟩ := hY (L.map (·.1)) p.1 _ hJ3 (by rw [List.length_map]; omega)
      have hy' : (Instr.yield l #[.agg #[.int .i64 p.1.1.1, .string (mkS p.1.1.2), .int .i64 p.1.2.1, .string (mkS p.1.2.2)]]).run Tryz.prog (w2.alloc (.cells #[.int .i64 p.1.1.1, .string (mkS p.1.1.2), .int .i64 p.1.2.1, .string (mkS p.1.2.2)] 144)) = .ok (.round l fn tmps assign body) (w2.alloc (.cells #[.int .i64 p.1.1.1, .string (mkS p.1.1.2), .int .i64 p.1.2.1, .string (mkS p.1.2.2)] 144)) := hy
      have hit3 : ∀ W3, KeepsWalks (w2.alloc (.cells #[.int .i64 p.1.1.1, .string (mkS p.1.1.2), .int .i64 p.1.2.1, .string (mkS p.1.2.2)] 144)) W3 → W3.heap[W.heap.size]? = some (.mapIter (some g) clock (seenOf (D ++ [e])) clock) ∧ W3.heap[g]? = some (.map es clock) ∧ W.heap.size ≤ W3.heap.size := fun W3 hk =>
        ⟨hk.same _ _ (by rw [heap_alloc_lt _ _ hl2]; exact hit2) rfl, hk.same _ _ (by rw [heap_alloc_lt _ _ (lt_of_at hgw2)]; exact hgw2) rfl, by have := hk.size; rw [size_alloc'] at this; omega⟩
      have hHold : (∀ W3, J (L.map (·.1) ++ [p.1]) W3 → KeepsWalks (w2.alloc (.cells #[.int .i64 p.1.1.1, .string (mkS p.1.1.2), .int .i64 p.1.2.1, .string (mkS p.1.2.2)] 144)) W3 →
          (∃ (D : List MapEntry) (L : List ((Par × Par) × Value)), W3.heap[W.heap.size]? = some (.mapIter (some g) clock (seenOf D) clock) ∧ Seen prV es lk D L ∧ W3.heap[g]? = some (.map es clock) ∧ W.heap.size ≤ W3.heap.size ∧ J (L.map (·.1)) W3) ∧ leftN es W.heap.size W3 < leftN es W.heap.size wr) := fun W3 hJ4 hk4 => by
        obtain ⟨a1, a2, a3⟩ := hit3 W3 hk4
        refine ⟨⟨D ++ [e], L ++ [p], a1, hS', a2, a3, by rw [List.map_append]; exact hJ4⟩, ?_⟩
        rw [leftN_eq a1, leftN_eq hit]
        have := hi.lt
        simp; omega
      have hHold := Lib.hid hHold
      clear hS' hS hJs hit hy hJ3 hJ2 hit3 hlen hi hgb hnew hp hY hJ
      gi_wp2
      refine ⟨fun h => (by cases h), hR.mono ?_⟩
      rintro e3 W3 ⟨rfl, hJ4, hk4⟩
      have hfin := hHold.out W3 hJ4 hk4
      clear hHold hJ4 hk4
      gi_wp2
      exact hfin
end Go.Proofs.YtikfmknnbjocmaaGreatDoor
end
section
set_option linter.unusedSectionVars false
set_option linter.unusedVariables false
namespace Go.Proofs.YtikfmknnbjocmaaGreatDoor
open Go.RowKit Go.MapKept Go.Shelf
set_option maxRecDepth 100000 in
set_option maxHeartbeats 1000000 in
theorem keys1Par (n l Bm g : Nat) (es : Array MapEntry) (clock : Nat) (lk : List (Par × Value)) (J : List Par → World → Prop) (hs : Stamped es clock) (hkv : es.toList.map (fun e => (e.key, e.val)) = lk.map (fun p => (parV p.1, p.2))) (hnd : (lk.map (·.1)).Nodup)
    (hY : ∀ pre x W, J pre W → pre.length < lk.length → YieldAt Fence.wide (n - 1) Tryz.prog l #[parV x] W fun e W' => e = .returned (.bool true) ∧ J (pre ++ [x]) W' ∧ KeepsWalks W W')
    (W : World) (hJ : AbidesFrom W.heap.size J) (hm : W.cell? ⟨Bm, 0, none⟩ = some (.map (some g))) (hg : W.heap[g]? = some (.map es clock)) (h0 : J [] W) :
    CallsIn Fence.wide n Tryz.prog 133 #[.func (.yield l) #[] #[], .pointer (some ⟨Bm, 0, none⟩)] W fun e W' => (∃ v, e = .returned v) ∧ ∃ ss : List Par, (ss.Nodup ∧ ∀ k, k ∈ ss ↔ k ∈ lk.map (·.1)) ∧ J ss W' := by
  have mixed : Tryz.prog.follows .mixedOrders = true := by kernel_rfl
  refine callsIn_of_wp Tryz.func133 rfl trivial ?_ rfl
  simp only [Tryz.ntmps133, List.size_toArray, List.length_cons, List.length_nil, Nat.reduceAdd, Nat.reduceSub, Array.replicate_succ, Array.replicate_zero, List.push_toArray, List.append_toArray, List.nil_append, List.cons_append]
  gi_wp2_with (first
    | (gi_at_range; refine wpListIn_rangeM rfl _ 89 43 88 rfl (by kernel_rfl) g es clock rfl hg ?_)
    | gi_in)
  go_frame
  gi_loopw [3] (fun _ wr => ∃ (D : List MapEntry) (L : List (Par × Value)), wr.heap[W.heap.size]? = some (.mapIter (some g) clock (seenOf D) clock) ∧ Seen parV es lk D L ∧ wr.heap[g]? = some (.map es clock) ∧ W.heap.size ≤ wr.heap.size ∧ J (L.map (·.1)) wr)
    (fun _ wr => leftN es W.heap.size wr)
  case atStart =>
    refine ⟨[], [], heap_alloc_eq _ _, Seen.nil _ _, by rw [heap_alloc_lt _ _ (lt_of_at hg)]; exact hg, by rw [size_alloc']; omega, ?_⟩
    exact hJ [] W _ none h0 ⟨rfl, rfl, rfl, by rw [size_alloc']; omega, fun k hk _ => heap_alloc_lt _ _ hk⟩ (fun r e => by cases e)
  case round =>
    obtain ⟨D, L, hit, hS, hgr, hsz, hJs⟩ := hrel
    gi_wp2_with (first
      | (gi_at_next; refine wpListIn_nextM rfl _ rfl W.heap.size g es clock D rfl hit hgr hs hS.it ?_ ?_)
      | gi_in)
    · intro hp
      gi_wp2
      go_end0
      have hall := hS.all keyPar.inj hkv hp
      exact ⟨⟨_, rfl⟩, L.map (·.1), ⟨hS.nod, fun k => ⟨fun h => by
        obtain ⟨y, hy, rfl⟩ := List.mem_map.1 h
        exact List.mem_map.2 ⟨y, hS.sub y hy, rfl⟩, fun h => by
        obtain ⟨y, hy, rfl⟩ := List.mem_map.1 h
        exact List.mem_map.2 ⟨y, hall y hy, rfl⟩⟩⟩, hJs⟩
    · intro e w2 he0 hi hit2 hgb
      have he : e ∈ es.toList := by simpa using he0
      obtain ⟨p, hp, hek, hev, hnew, hS'⟩ := hS.snoc keyPar.inj hkv hnd he hi
      have hgw2 : w2.heap[g]? = some (.map es clock) := (hgb.block g (lt_of_at hgr) (fun e => by cases e; rw [hit] at hgr; cases hgr)).trans hgr
      have hen := run_entryM (P := Tryz.prog) hit2 hgw2 hs he
      rw [hek, hev, show parV p.1 = .agg #[.int .i64 p.1.1, .string (mkS p.1.2)] from rfl] at hen ⊢
      have hl2 := lt_of_at hit2
      have hlen := hS'.len
      simp only [List.length_append, List.length_cons, List.length_nil] at hlen
      have hJ2 : J (L.map (·.1)) w2 := hJ _ wr w2 (some W.heap.size) hJs hgb (fun r e => by cases e; exact ⟨Nat.le_refl _, _, hit, rfl⟩)
      have hJ3 : J (L.map (·.1)) (w2.alloc (.cells #[.int .i64 p.1.1, .string (mkS p.1.2)] 43)) := hJ _ w2 _ none hJ2 ⟨rfl, rfl, rfl, by rw [size_alloc']; omega, fun k hk _ => heap_alloc_lt _ _ hk⟩ (fun r e => by cases e)
      have hS2 : w2.heap.size ≥ W.heap.size := Nat.le_trans hsz hgb.size
      obtain ⟨fn, tmps, assign, body, hy, hR⟩ := hY (L.map (·.1)) p.1 _ hJ3 (by rw [List.length_map]; omega)
      have hy' : (Instr.yield l #[.agg #[.int .i64 p.1.1, .string (mkS p.1.2)]]).run Tryz.prog (w2.alloc (.cells #[.int .i64 p.1.1, .string (mkS p.1.2)] 43)) = .ok (.round l fn tmps assign body) (w2.alloc (.cells #[.int .i64 p.1.1, .string (mkS p.1.2)] 43)) := hy
      have hit3 : ∀ W3, KeepsWalks (w2.alloc (.cells #[.int .i64 p.1.1, .string (mkS p.1.2)] 43)) W3 → W3.heap[W.heap.size]? = some (.mapIter (some g) clock (seenOf (D ++ [e])) clock) ∧ W3.heap[g]? = some (.map es clock) ∧ W.heap.size ≤ W3.heap.size := fun W3 hk =>
        ⟨hk.same _ _ (by rw [heap_alloc_lt _ _ hl2]; exact hit2) rfl, hk.same _ _ (by rw [heap_alloc_lt _ _ (lt_of_at hgw2)]; exact hgw2) rfl, by have := hk.size; rw [size_alloc'] at this; omega⟩
      have hHold : (∀ W3, J (L.map (·.1) ++ [p.1]) W3 → KeepsWalks (w2.alloc (.cells #[.int .i64 p.1.1, .string (mkS p.1.2)] 43)) W3 →
          (∃ (D : List MapEntry) (L : List (Par × Value)), W3.heap[W.heap.size]? = some (.mapIter (some g) clock (seenOf D) clock) ∧ Seen parV es lk D L ∧ W3.heap[g]? = some (.map es clock) ∧ W.heap.size ≤ W3.heap.size ∧ J (L.map (·.1)) W3) ∧ leftN es W.heap.size W3 < leftN es W.heap.size wr) := fun W3 hJ4 hk4 => by
        obtain ⟨a1, a2, a3⟩ := hit3 W3 hk4
        refine ⟨⟨D ++ [e], L ++ [p], a1, hS', a2, a3, by rw [List.map_append]; exact hJ4⟩, ?_⟩
        rw [leftN_eq a1, leftN_eq hit]
        have := hi.lt
        simp; omega
      have hHold := Lib.hid hHold
      clear hS' hS hJs hit hy hJ3 hJ2 hit3 hlen hi hgb hnew hp hY hJ
      gi_wp2
      refine ⟨fun h => (by cases h), hR.mono ?_⟩
      rintro e3 W3 ⟨rfl, hJ4, hk4⟩
      have hfin := hHold.out W3 hJ4 hk4
      clear hHold hJ4 hk4
      gi_wp2
      exact hfin
end Go.Proofs.YtikfmknnbjocmaaGreatDoor
end
section
set_option linter.unusedSectionVars false
set_option linter.unusedVariables false
namespace Go.Proofs.YtikfmknnbjocmaaGreatDoor
open Go.RowKit Go.MapKept Go.Shelf
abbrev cellsPar (p : Par) : List Value := [.int .i64 p.1, .string (mkS p.2)]
def apAssignPar : Code := Code.region 2 #[{ dst := some 5, op := Op.alloc 43, type := 0, pos := "iter.go:51", after := #[], guard := none }, { dst := none, op := Op.store 43 (Operand.tmp 5) (Operand.tmp 7), type := 0, pos := "iter.go:51", after := #[{ on := 0, ground := Ground.data }, { on := 0, ground := Ground.phase }], guard := none }] false
def apBodyPar : Code := Code.block 1 (Code.region 3 #[{ dst := some 8, op := Op.load 41 (Operand.tmp 2), type := 41, pos := "iter.go:52", after := #[], guard := none }, { dst := some 9, op := Op.load 43 (Operand.tmp 5), type := 43, pos := "iter.go:52", after := #[], guard := none }, { dst := some 10, op := Op.buildSlice 41 1 #[(0, Operand.tmp 9)], type := 41, pos := "iter.go:52", after := #[{ on := 1, ground := Ground.data }], guard := none }, { dst := some 11, op := Op.call { callee := Callee.builtin Builtin.append, args := #[Operand.tmp 8, Operand.tmp 10], argTypes := #[41, 41] }, type := 41, pos := "iter.go:52", after := #[{ on := 0, ground := Ground.data }, { on := 2, ground := Ground.data }], guard := none }, { dst := none, op := Op.store 41 (Operand.tmp 2) (Operand.tmp 11), type := 0, pos := "iter.go:52", after := #[{ on := 3, ground := Ground.data }, { on := 3, ground := Ground.chain }, { on := 0, ground := Ground.phase }, { on := 1, ground := Ground.phase }, { on := 2, ground := Ground.phase }, { on := 3, ground := Ground.phase }], guard := none }] false)
def apRecPar (fn : FuncId) (sv : Value) (Bs D : Nat) (st : LoopState) (pend : Option Code) : Loop :=
  { state := st, pending := pend, fn, tmps := #[.slice none 0 0, sv, .pointer (some ⟨Bs, 0, none⟩), undef, .slice none 0 0, undef, sv, undef, undef, undef, undef, undef, undef], params := #[7], assign := apAssignPar, body := apBodyPar, defers := D }
structure ApPar (w0 : World) (fn : FuncId) (sv : Value) (Bs l D : Nat) (ss : List Par) (W : World) : Prop where
  box : ∃ v, W.heap[Bs]? = some (.cells #[v] 41 (0, 0)) ∧ W.ownsRow w0.heap.size 43 2 v ss.length (ss.flatMap cellsPar) ∧ (v = .slice none 0 0 ↔ ss = [])
  L : W.heap[l]? = some (.loop (apRecPar fn sv Bs D .ready none))
  K : W.heap[D]? = some (.deferred (some []))
  below : Below w0.heap.size w0 W
theorem apPar_abides (w0 : World) (fn : FuncId) (sv : Value) (Bs l D B : Nat) (hB : w0.heap.size ≤ B) : AbidesFrom B (ApPar w0 fn sv Bs l D) := fun s W W' row h hg hrow => by
  have hrow' : ∀ r, row = some r → ∃ o : Obj, W.heap[r]? = some o ∧ o.isWalk = true := fun r e => (hrow r e).2
  obtain ⟨v, hv, hr, hn⟩ := h.box
  exact ⟨⟨v, (grownBy_keeps hg hrow' hv rfl).trans hv, ownsRow_abides_a hr hg hrow', hn⟩, (grownBy_keeps hg hrow' h.L rfl).trans h.L, (grownBy_keeps hg hrow' h.K rfl).trans h.K,
    h.below.grown hg h.below.size (fun k e => Nat.le_trans hB (hrow k e).1)⟩
theorem cells_new2 (w : World) (x y : Value) (t : TypeId) : ∀ j u, [x, y][j]? = some u → (w.alloc (.cells #[x, y] t)).cell? ((⟨w.heap.size, 0, none⟩ : Addr).add j) = some u := by
  intro j u hj
  have h := heap_alloc_eq w (.cells #[x, y] t)
  match j, hj with
  | 0, hj =>
    rw [show ((⟨w.heap.size, 0, none⟩ : Addr).add 0) = ⟨w.heap.size, 0, none⟩ from rfl]
    unfold World.cell?; rw [h]; simpa using hj
  | 1, hj =>
    rw [show ((⟨w.heap.size, 0, none⟩ : Addr).add 1) = ⟨w.heap.size, 1, none⟩ from rfl]
    unfold World.cell?; rw [h]; simpa using hj
  | j + 2, hj => simp at hj
set_option maxRecDepth 100000 in
set_option maxHeartbeats 4000000 in
theorem apYieldPar (m : Nat) (w0 : World) (fn : FuncId) (sv : Value) (Bs l D : Nat) (hBl : Bs ≠ l) (hDl : D ≠ l) (hDB : D ≠ Bs) (h0B : w0.heap.size ≤ Bs) (h0l : w0.heap.size ≤ l)
    (N : Nat) (hN : N ≤ 1000000) (ss : List Par) (x : Par) (W00 : World) (h00 : ApPar w0 fn sv Bs l D ss W00) (hlen : ss.length < N) :
    YieldAt Fence.wide m Tryz.prog l #[parV x] W00 fun e W' => e = .returned (.bool true) ∧ ApPar w0 fn sv Bs l D (ss ++ [x]) W' ∧ KeepsWalks W00 W' := by
  have mixed : Tryz.prog.follows .mixedOrders = true := by kernel_rfl
  have hne : 41 ≠ 43 := by decide
  obtain ⟨i0, hi, hz0, hz1, hz2⟩ : ∃ i, Tryz.prog.info? 43 = some i ∧ i.zero = some (.agg #[.int .i64 0, .string ⟨#[]⟩]) ∧ i.size = 2 ∧ i.bytes = 24 := ⟨_, rfl, by kernel_rfl, by kernel_rfl, by kernel_rfl⟩
  obtain ⟨xf, xc⟩ := x
  have hmax : maxLen ≥ 1000000 := by decide
  refine ⟨fn, #[.slice none 0 0, sv, .pointer (some ⟨Bs, 0, none⟩), undef, .slice none 0 0, undef, sv, parV (xf, xc), undef, undef, undef, undef, undef], apAssignPar, apBodyPar, by simpa [apRecPar] using run_yield (P := Tryz.prog) (args := #[parV (xf, xc)]) h00.L rfl, roundIn_of_wpIn trivial ?_⟩
  obtain ⟨W, hW⟩ : ∃ W, W00.alloc (.cells #[.int .i64 xf, .string (mkS xc)] 43) = W := ⟨_, rfl⟩
  have h : ApPar w0 fn sv Bs l D ss W := by
    refine apPar_abides w0 fn sv Bs l D w0.heap.size (Nat.le_refl _) ss W00 W none h00 ?_ (fun r e => by cases e)
    rw [← hW]; exact ⟨rfl, rfl, rfl, by rw [size_alloc']; omega, fun k hk _ => heap_alloc_lt _ _ hk⟩
  have hkW : W.heap[W00.heap.size]? = some (.cells #[.int .i64 xf, .string (mkS xc)] 43 (0, 0)) := by rw [← hW]; exact heap_alloc_eq _ _
  have hk00 : KeepsWalks W00 W := by rw [← hW]; exact KeepsWalks.alloc _ _
  obtain ⟨v, hv, hrow, _⟩ := h.box
  have hl : l < W.heap.size := (Array.getElem?_eq_some_iff.1 h.L).1
  have hl0 : l < W00.heap.size := lt_of_at h00.L
  have hbr := run_beginRound (P := Tryz.prog) h.L rfl
  obtain ⟨W2, hW2⟩ : ∃ W2, W.putObj l (.loop { apRecPar fn sv Bs D .ready none with state := .busy }) = W2 := ⟨_, rfl⟩
  rw [hW2] at hbr
  have hg2 : W.grownBy W2 (some l) := by rw [← hW2]; exact grownBy_putObj_a _ _ _
  have hk2 : KeepsWalks W W2 := by rw [← hW2]; exact KeepsWalks.putObj _ h.L rfl
  have hv2 : W2.heap[Bs]? = some (.cells #[v] 41 (0, 0)) := by rw [← hW2]; exact (World.putObj_heap_other hBl).trans hv
  have hK2 : W2.heap[D]? = some (.deferred (some [])) := by rw [← hW2]; exact (World.putObj_heap_other hDl).trans h.K
  have hL2 : W2.heap[l]? = some (.loop { apRecPar fn sv Bs D .ready none with state := .busy }) := by rw [← hW2]; exact World.putObj_heap_same hl
  have hx2 : W2.heap[W00.heap.size]? = some (.cells #[.int .i64 xf, .string (mkS xc)] 43 (0, 0)) := by rw [← hW2]; exact (World.putObj_heap_other (by omega)).trans hkW
  have hrow2 : W2.ownsRow w0.heap.size 43 2 v ss.length (ss.flatMap cellsPar) := hrow.kept hg2 (ownsRow_ne_a hrow h.L (fun cur e => by cases e))
  have hb2 : Below w0.heap.size w0 W2 := h.below.grown hg2 h.below.size (fun k e => by cases e; exact h0l)
  obtain ⟨hc2, hf2⟩ := cell_of_box_a hv2
  have hxc0 : W2.cell? ⟨W00.heap.size, 0, none⟩ = some (.int .i64 xf) := by simp [World.cell?, hx2]
  have hxc1 : W2.cell? ⟨W00.heap.size, 1, none⟩ = some (.string (mkS xc)) := by simp [World.cell?, hx2]
  have hBlt : Bs < W2.heap.size := (Array.getElem?_eq_some_iff.1 hv2).1
  have hl2 : l < W2.heap.size := (Array.getElem?_eq_some_iff.1 hL2).1
  have hDlt : D < W2.heap.size := (Array.getElem?_eq_some_iff.1 hK2).1
  have ne_of : ∀ {j : Nat} {o : Obj}, W2.heap[j]? = some o → (∀ cur, o ≠ .cells cur 43 (0, 0)) → some j ≠ v.ownBlock := fun hj hno => by
    rcases ownsRow_ne_a hrow2 hj hno with e | e
    · rw [e]; simp
    · exact fun e' => e e'.symm
  clear hW2
  unfold apAssignPar
  rw [show parV (xf, xc) = .agg #[.int .i64 xf, .string (mkS xc)] from rfl]
  gi_wp2_with gi_round_op_a
  unfold apBodyPar
  gi_wp2_with (first
    | (gi_at_builtin; refine wpListIn_append_own _ rfl _ _ 41 rfl w0.heap.size 43 i0 (.agg #[.int .i64 0, .string ⟨#[]⟩]) 2 24 (by kernel_rfl) hi hz0 hz1 hz2 rfl (by decide) _ _ _ rfl (hrow2.alloc _) ⟨W2.heap.size, 0, none⟩ 1 1 (cellsPar (xf, xc)) rfl rfl (cells_new2 _ _ _ _) (fun u hu => by simp at hu; rcases hu with rfl | rfl <;> rfl) (by omega) (by omega) (by have := hb2.size; simp; omega) ?_; intro v' w3 hown' hg3 hnil3
       have hv3 : w3.heap[Bs]? = some (.cells #[v] 41 (0, 0)) := (hg3.block Bs (by simp; omega) (ne_of hv2 (fun cur e => by cases e))).trans ((Below.heap_alloc _ _ Bs hBlt).trans hv2)
       obtain ⟨hc3, hf3⟩ := cell_of_box_a hv3
       obtain ⟨g', cap', cur', rfl, hbase', hgb', hr1, hr2, hr3, hr4⟩ : ∃ g' cap' cur', v' = .slice (some ⟨g', 0, none⟩) (ss.length + 1) cap' ∧ w0.heap.size ≤ g' ∧ w3.heap[g']? = some (.cells cur' 43 (0, 0)) ∧ ss.length + 1 ≤ cap' ∧ cap' ≤ maxLen ∧ cur'.size = cap' * 2 ∧ cur'.toList.take ((ss.length + 1) * 2) = ss.flatMap cellsPar ++ cellsPar (xf, xc) := by
         rcases hown'.2 with ⟨_, h0⟩ | h'
         · exact absurd h0 (by omega)
         · exact h'
       go_frame)
    | gi_round_op_a)
  have hg3' : (W2.alloc (.cells #[.int .i64 xf, .string (mkS xc)] 43)).grownBy w3 v.ownBlock := hg3
  have hL3 : w3.heap[l]? = some (.loop { apRecPar fn sv Bs D .ready none with state := .busy }) := (hg3'.block l (by simp; omega) (ne_of hL2 (fun cur e => by cases e))).trans ((Below.heap_alloc _ _ l hl2).trans hL2)
  have hK3 : w3.heap[D]? = some (.deferred (some [])) := (hg3'.block D (by simp; omega) (ne_of hK2 (fun cur e => by cases e))).trans ((Below.heap_alloc _ _ D hDlt).trans hK2)
  obtain ⟨w4, hw4⟩ : ∃ w4, w3.setCell ⟨Bs, 0, none⟩ (.slice (some ⟨g', 0, none⟩) (ss.length + 1) cap') = w4 := ⟨_, rfl⟩
  rw [hw4]
  have hg4 : w3.grownBy w4 (some Bs) := by rw [← hw4]; exact grownBy_setCell0_a _ _ _
  have hv4 : w4.heap[Bs]? = some (.cells #[.slice (some ⟨g', 0, none⟩) (ss.length + 1) cap'] 41 (0, 0)) := by rw [← hw4]; exact heap_setCell_box_a _ hv3
  have hL4 : w4.heap[l]? = some (.loop { apRecPar fn sv Bs D .ready none with state := .busy }) := (hg4.block l (Array.getElem?_eq_some_iff.1 hL3).1 (fun e => hBl (by cases e; rfl))).trans hL3
  have hK4 : w4.heap[D]? = some (.deferred (some [])) := (hg4.block D (Array.getElem?_eq_some_iff.1 hK3).1 (fun e => hDB (by cases e; rfl))).trans hK3
  have hrow4 := hown'.kept hg4 (ownsRow_ne_a hown' hv3 (fun cur e => hne (Obj.cells.inj e).2.1))
  have hl4 : l < w4.heap.size := (Array.getElem?_eq_some_iff.1 hL4).1
  have hb3 : Below w0.heap.size w0 w3 := (hb2.alloc hb2.size _).grown hg3' (by have := hb2.size; simp; omega) (fun k e => (hrow2.lt k e).1)
  have hb4 : Below w0.heap.size w0 w4 := hb3.grown hg4 hb3.size (fun k e => by cases e; exact h0B)
  have hk4 : KeepsWalks W w4 := ((hk2.trans (KeepsWalks.alloc _ _)).trans (KeepsWalks.of_grownBy hg3' (ownsRow_not_walk_a (hrow2.alloc _)))).trans (by rw [← hw4]; exact KeepsWalks.setCell _ _ _)
  clear hw4
  refine ⟨_, _, run_endRound none hL4, rfl, ⟨⟨_, (World.putObj_heap_other hBl).trans hv4, ?_, by simp⟩, World.putObj_heap_same hl4, (World.putObj_heap_other hDl).trans hK4, hb4.grown (grownBy_putObj_a _ _ _) hb4.size (fun k e => by cases e; exact h0l)⟩, hk00.trans (hk4.trans (KeepsWalks.putObj _ hL4 rfl))⟩
  have := hrow4.kept (grownBy_putObj_a w4 l (.loop { { apRecPar fn sv Bs D .ready none with state := .busy } with state := if (none : Option Code).isNone then .ready else .done, pending := none })) (ownsRow_ne_a hrow4 hL4 (fun cur e => by cases e))
  simpa using this
def KeysS (lk : List (Par × Value)) (ss : List Par) : Prop := ss.Nodup ∧ ∀ k, k ∈ ss ↔ k ∈ lk.map (·.1)
set_option maxRecDepth 100000 in
set_option maxHeartbeats 4000000 in
theorem appendSeqPar (n g : Nat) (lb : Array Value) (eg : ∀ args w, (callFunc g args).run Tryz.prog w = .ok (.enter g args) w) (S : List Par → Prop) (N : Nat) (hN : N ≤ 1000000) (w : World) (hseq : SeqGives Fence.wide (n - 1) Tryz.prog g lb parV S N w) :
    CallsIn Fence.wide n Tryz.prog 161 #[.slice none 0 0, .func (.func g) #[] lb] w fun e w' => ∃ (v : Value) (ss : List Par), e = .returned v ∧ S ss ∧ w'.ownsRow w.heap.size 43 2 v ss.length (ss.flatMap cellsPar) ∧ (v = .slice none 0 0 ↔ ss = []) ∧ Below w.heap.size w w' := by
  have mixed : Tryz.prog.follows .mixedOrders = true := by kernel_rfl
  have hne : 41 ≠ 43 := by decide
  have hro : Fence.wide.round = none := rfl
  refine callsIn_of_wp_marks Tryz.func161 rfl trivial ?_ rfl
  simp only [Tryz.ntmps161, List.size_toArray, List.length_cons, List.length_nil, Nat.reduceAdd, Nat.reduceSub, Array.replicate_succ, Array.replicate_zero, List.push_toArray, List.append_toArray, List.nil_append, List.cons_append]
  gi_wp2
  refine wpIn_rangeFunc ?_
  intro fn hfn
  rw [hro]
  obtain ⟨W0, hW0⟩ : ∃ W0, w.alloc (.cells #[.slice none 0 0] 41) = W0 := ⟨_, rfl⟩
  have hs0 : W0.heap.size = w.heap.size + 1 := by rw [← hW0]; simp
  have hv0 : W0.heap[w.heap.size]? = some (.cells #[.slice none 0 0] 41 (0, 0)) := by rw [← hW0]; exact World.alloc_heap_new w _
  have hb0 : Below w.heap.size w W0 := by rw [← hW0]; exact (Below.refl _ w).alloc (Nat.le_refl _) _
  rw [hW0]
  obtain ⟨W1, hW1⟩ : ∃ W1, (W0.alloc (.deferred (some []))).alloc (.loop (apRecPar fn (.func (.func g) #[] lb) w.heap.size W0.heap.size .ready none)) = W1 := ⟨_, rfl⟩
  have hold : ∀ k, k < W0.heap.size → W1.heap[k]? = W0.heap[k]? := fun k hk => by
    rw [← hW1]; exact (Below.heap_alloc _ _ k (by simp; omega)).trans (Below.heap_alloc _ _ k hk)
  have hb1 : Below w.heap.size w W1 := by rw [← hW1]; exact (hb0.alloc hb0.size _).alloc (by have := hb0.size; simp; omega) _
  have hs1 : W1.heap.size = W0.heap.size + 2 := by rw [← hW1]; simp
  have hM : ApPar w fn (.func (.func g) #[] lb) w.heap.size (W0.heap.size + 1) W0.heap.size [] W1 :=
    ⟨⟨_, (hold w.heap.size (by omega)).trans hv0, ⟨rfl, .inl ⟨rfl, rfl⟩⟩, by simp⟩,
     by rw [← hW1]; have := World.alloc_heap_new (W0.alloc (.deferred (some []))) (.loop (apRecPar fn (.func (.func g) #[] lb) w.heap.size W0.heap.size .ready none)); rwa [World.size_alloc] at this,
     by rw [← hW1]; exact (Below.heap_alloc _ _ _ (by simp)).trans (World.alloc_heap_new W0 _), hb1⟩
  refine ⟨W0.heap.size + 1, [{ target := .collected W0.heap.size, args := #[] }], W1, { target := .fn (.func g) lb, args := #[.func (.yield (W0.heap.size + 1)) #[] #[]] }, W1, g,
    #[.func (.yield (W0.heap.size + 1)) #[] #[]] ++ lb, W1, ?_, ?_, ?_, ?_, fun h => (by cases h), ?_⟩
  · rw [← hW1]; exact run_enterLoop_outer _ _ _ _ _
  · simp [resolve, go_sem]
  · intro f' hf'; exact trivial
  · simp [invoke, go_sem, eg]
  · refine (hseq (W0.heap.size + 1) (ApPar w fn (.func (.func g) #[] lb) w.heap.size (W0.heap.size + 1) W0.heap.size) W1 hb1 (apPar_abides _ _ _ _ _ _ _ hb1.size)
      (fun pre x W hJ hl => apYieldPar (n - 1 - 1) w fn _ w.heap.size (W0.heap.size + 1) W0.heap.size (by omega) (by omega) (by omega) (Nat.le_refl _) (by omega) N hN pre x W hJ hl) hM).mono ?_
    rintro e W2 ⟨⟨v0, rfl⟩, ss, hS, h2⟩
    obtain ⟨v, hv, hrow, hnil⟩ := h2.box
    have hend := run_endLoop (P := Tryz.prog) h2.L (by simp [apRecPar])
    obtain ⟨W3, hW3⟩ : ∃ W3, W2.putObj (W0.heap.size + 1) (.loop { apRecPar fn (.func (.func g) #[] lb) w.heap.size W0.heap.size .ready none with state := .exhausted }) = W3 := ⟨_, rfl⟩
    rw [hW3] at hend
    have hg3 : W2.grownBy W3 (some (W0.heap.size + 1)) := by rw [← hW3]; exact grownBy_putObj_a _ _ _
    have hv3 : W3.heap[w.heap.size]? = some (.cells #[v] 41 (0, 0)) := by rw [← hW3]; exact (World.putObj_heap_other (by omega)).trans hv
    have hK3 : W3.heap[W0.heap.size]? = some (.deferred (some [])) := by rw [← hW3]; exact (World.putObj_heap_other (by omega)).trans h2.K
    have hrow3 := hrow.kept hg3 (ownsRow_ne_a hrow h2.L (fun cur e => by cases e))
    have hb3 : Below w.heap.size w W3 := h2.below.grown hg3 h2.below.size (fun k e => by cases e; omega)
    obtain ⟨hc3, hf3⟩ := cell_of_box_a hv3
    clear hW3
    refine ⟨none, W3, hend, ?_⟩
    gi_wp2
    rw [← hs0]
    refine ⟨by simp, .inl ⟨_, _, rfl, run_takeDeferred hK3, ?_⟩⟩
    exact ⟨_, results_tmp rfl _ _ _, v, ss, rfl, hS, hrow3.kept (grownBy_putObj_a _ _ _) (ownsRow_ne_a hrow3 hK3 (fun cur e => by cases e)), hnil, hb3.grown (grownBy_putObj_a _ _ _) hb3.size (fun k e => by cases e; omega)⟩
theorem keysGivesPar (n Bm g : Nat) (es : Array MapEntry) (clock : Nat) (lk : List (Par × Value)) (hs : Stamped es clock) (hkv : es.toList.map (fun e => (e.key, e.val)) = lk.map (fun p => (parV p.1, p.2))) (hnd : (lk.map (·.1)).Nodup) (w : World) (hm : w.cell? ⟨Bm, 0, none⟩ = some (.map (some g))) (hBm : Bm < w.heap.size) (hg : w.heap[g]? = some (.map es clock)) :
    SeqGives Fence.wide n Tryz.prog 133 #[.pointer (some ⟨Bm, 0, none⟩)] parV (KeysS lk) lk.length w := fun l J W hW hJ hY h0 => by
  exact keys1Par n l Bm g es clock lk J hs hkv hnd hY W hJ ((hW.cell (p := ⟨Bm, 0, none⟩) hBm).trans hm) ((hW.block g (lt_of_at hg)).trans hg) h0
set_option maxHeartbeats 4000000 in
theorem collectPar (g : Nat) (lb : Array Value) (eg : ∀ args w, (callFunc g args).run Tryz.prog w = .ok (.enter g args) w) (S : List Par → Prop) (N : Nat) (hN : N ≤ 1000000) (w : World) (hseq : SeqGives Fence.wide 0 Tryz.prog g lb parV S N w) :
    Calls Tryz.prog 131 #[.func (.func g) #[] lb] w fun e w' => ∃ (v : Value) (ss : List Par), e = .returned v ∧ S ss ∧ w'.ownsRow w.heap.size 43 2 v ss.length (ss.flatMap cellsPar) ∧ (v = .slice none 0 0 ↔ ss = []) ∧ Below w.heap.size w w' := by
  have mixed : Tryz.prog.follows .mixedOrders = true := by kernel_rfl
  have c1 := callsIn_wide.1 (appendSeqPar 1 g lb eg S N hN w hseq)
  clear hseq
  go_enter Tryz.func131, Tryz.ntmps131
  go_wp2_with (go_at_call 161; refine c1.mono ?_; rintro e w' ⟨v, ss, rfl, hS, hrow, hnil, hb⟩)
  go_ret
  exact ⟨v, ss, rfl, hS, hrow, hnil, hb⟩
end Go.Proofs.YtikfmknnbjocmaaGreatDoor
end
section
set_option linter.unusedSectionVars false
set_option linter.unusedVariables false
namespace Go.Proofs.YtikfmknnbjocmaaGreatDoor
open Go.RowKit Go.MapKept Go.Shelf
abbrev cellsPr (p : Par × Par) : List Value := [.int .i64 p.1.1, .string (mkS p.1.2), .int .i64 p.2.1, .string (mkS p.2.2)]
def apAssignPr : Code := Code.region 2 #[{ dst := some 5, op := Op.alloc 144, type := 0, pos := "iter.go:51", after := #[], guard := none }, { dst := none, op := Op.store 144 (Operand.tmp 5) (Operand.tmp 7), type := 0, pos := "iter.go:51", after := #[{ on := 0, ground := Ground.data }, { on := 0, ground := Ground.phase }], guard := none }] false
def apBodyPr : Code := Code.block 1 (Code.region 3 #[{ dst := some 8, op := Op.load 141 (Operand.tmp 2), type := 141, pos := "iter.go:52", after := #[], guard := none }, { dst := some 9, op := Op.load 144 (Operand.tmp 5), type := 144, pos := "iter.go:52", after := #[], guard := none }, { dst := some 10, op := Op.buildSlice 141 1 #[(0, Operand.tmp 9)], type := 141, pos := "iter.go:52", after := #[{ on := 1, ground := Ground.data }], guard := none }, { dst := some 11, op := Op.call { callee := Callee.builtin Builtin.append, args := #[Operand.tmp 8, Operand.tmp 10], argTypes := #[141, 141] }, type := 141, pos := "iter.go:52", after := #[{ on := 0, ground := Ground.data }, { on := 2, ground := Ground.data }], guard := none }, { dst := none, op := Op.store 141 (Operand.tmp 2) (Operand.tmp 11), type := 0, pos := "iter.go:52", after := #[{ on := 3, ground := Ground.data }, { on := 3, ground := Ground.chain }, { on := 0, ground := Ground.phase }, { on := 1, ground := Ground.phase }, { on := 2, ground := Ground.phase }, { on := 3, ground := Ground.phase }], guard := none }] false)
def apRecPr (fn : FuncId) (sv : Value) (Bs D : Nat) (st : LoopState) (pend : Option Code) : Loop :=
  { state := st, pending := pend, fn, tmps := #[.slice none 0 0, sv, .pointer (some ⟨Bs, 0, none⟩), undef, .slice none 0 0, undef, sv, undef, undef, undef, undef, undef, undef], params := #[7], assign := apAssignPr, body := apBodyPr, defers := D }
structure ApPr (w0 : World) (fn : FuncId) (sv : Value) (Bs l D : Nat) (ss : List (Par × Par)) (W : World) : Prop where
  box : ∃ v, W.heap[Bs]? = some (.cells #[v] 141 (0, 0)) ∧ W.ownsRow w0.heap.size 144 4 v ss.length (ss.flatMap cellsPr) ∧ (v = .slice none 0 0 ↔ ss = [])
  L : W.heap[l]? = some (.loop (apRecPr fn sv Bs D .ready none))
  K : W.heap[D]? = some (.deferred (some []))
  below : Below w0.heap.size w0 W
theorem apPr_abides (w0 : World) (fn : FuncId) (sv : Value) (Bs l D B : Nat) (hB : w0.heap.size ≤ B) : AbidesFrom B (ApPr w0 fn sv Bs l D) := fun s W W' row h hg hrow => by
  have hrow' : ∀ r, row = some r → ∃ o : Obj, W.heap[r]? = some o ∧ o.isWalk = true := fun r e => (hrow r e).2
  obtain ⟨v, hv, hr, hn⟩ := h.box
  exact ⟨⟨v, (grownBy_keeps hg hrow' hv rfl).trans hv, ownsRow_abides_a hr hg hrow', hn⟩, (grownBy_keeps hg hrow' h.L rfl).trans h.L, (grownBy_keeps hg hrow' h.K rfl).trans h.K,
    h.below.grown hg h.below.size (fun k e => Nat.le_trans hB (hrow k e).1)⟩
theorem cells_new4 (w : World) (x y x' y' : Value) (t : TypeId) : ∀ j u, [x, y, x', y'][j]? = some u → (w.alloc (.cells #[x, y, x', y'] t)).cell? ((⟨w.heap.size, 0, none⟩ : Addr).add j) = some u := by
  intro j u hj
  have h := heap_alloc_eq w (.cells #[x, y, x', y'] t)
  match j, hj with
  | 0, hj =>
    rw [show ((⟨w.heap.size, 0, none⟩ : Addr).add 0) = ⟨w.heap.size, 0, none⟩ from rfl]
    unfold World.cell?; rw [h]; simpa using hj
  | 1, hj =>
    rw [show ((⟨w.heap.size, 0, none⟩ : Addr).add 1) = ⟨w.heap.size, 1, none⟩ from rfl]
    unfold World.cell?; rw [h]; simpa using hj
  | 2, hj =>
    rw [show ((⟨w.heap.size, 0, none⟩ : Addr).add 2) = ⟨w.heap.size, 2, none⟩ from rfl]
    unfold World.cell?; rw [h]; simpa using hj
  | 3, hj =>
    rw [show ((⟨w.heap.size, 0, none⟩ : Addr).add 3) = ⟨w.heap.size, 3, none⟩ from rfl]
    unfold World.cell?; rw [h]; simpa using hj
  | j + 4, hj => simp at hj
set_option maxRecDepth 100000 in
set_option maxHeartbeats 4000000 in
theorem apYieldPr (m : Nat) (w0 : World) (fn : FuncId) (sv : Value) (Bs l D : Nat) (hBl : Bs ≠ l) (hDl : D ≠ l) (hDB : D ≠ Bs) (h0B : w0.heap.size ≤ Bs) (h0l : w0.heap.size ≤ l)
    (N : Nat) (hN : N ≤ 1000000) (ss : List (Par × Par)) (x : Par × Par) (W00 : World) (h00 : ApPr w0 fn sv Bs l D ss W00) (hlen : ss.length < N) :
    YieldAt Fence.wide m Tryz.prog l #[prV x] W00 fun e W' => e = .returned (.bool true) ∧ ApPr w0 fn sv Bs l D (ss ++ [x]) W' ∧ KeepsWalks W00 W' := by
  have mixed : Tryz.prog.follows .mixedOrders = true := by kernel_rfl
  have hne : 141 ≠ 144 := by decide
  obtain ⟨i0, hi, hz0, hz1, hz2⟩ : ∃ i, Tryz.prog.info? 144 = some i ∧ i.zero = some (.agg #[.int .i64 0, .string ⟨#[]⟩, .int .i64 0, .string ⟨#[]⟩]) ∧ i.size = 4 ∧ i.bytes = 48 := ⟨_, rfl, by kernel_rfl, by kernel_rfl, by kernel_rfl⟩
  obtain ⟨⟨xf, xc⟩, ⟨yf, yc⟩⟩ := x
  have hmax : maxLen ≥ 1000000 := by decide
  refine ⟨fn, #[.slice none 0 0, sv, .pointer (some ⟨Bs, 0, none⟩), undef, .slice none 0 0, undef, sv, prV ((xf, xc), (yf, yc)), undef, undef, undef, undef, undef], apAssignPr, apBodyPr, by simpa [apRecPr] using run_yield (P := Tryz.prog) (args := #[prV ((xf, xc), (yf, yc))]) h00.L rfl, roundIn_of_wpIn trivial ?_⟩
  obtain ⟨W, hW⟩ : ∃ W, W00.alloc (.cells #[.int .i64 xf, .string (mkS xc), .int .i64 yf, .string (mkS yc)] 144) = W := ⟨_, rfl⟩
  have h : ApPr w0 fn sv Bs l D ss W := by
    refine apPr_abides w0 fn sv Bs l D w0.heap.size (Nat.le_refl _) ss W00 W none h00 ?_ (fun r e => by cases e)
    rw [← hW]; exact ⟨rfl, rfl, rfl, by rw [size_alloc']; omega, fun k hk _ => heap_alloc_lt _ _ hk⟩
  have hkW : W.heap[W00.heap.size]? = some (.cells #[.int .i64 xf, .string (mkS xc), .int .i64 yf, .string (mkS yc)] 144 (0, 0)) := by rw [← hW]; exact heap_alloc_eq _ _
  have hk00 : KeepsWalks W00 W := by rw [← hW]; exact KeepsWalks.alloc _ _
  obtain ⟨v, hv, hrow, _⟩ := h.box
  have hl : l < W.heap.size := (Array.getElem?_eq_some_iff.1 h.L).1
  have hl0 : l < W00.heap.size := lt_of_at h00.L
  have hbr := run_beginRound (P := Tryz.prog) h.L rfl
  obtain ⟨W2, hW2⟩ : ∃ W2, W.putObj l (.loop { apRecPr fn sv Bs D .ready none with state := .busy }) = W2 := ⟨_, rfl⟩
  rw [hW2] at hbr
  have hg2 : W.grownBy W2 (some l) := by rw [← hW2]; exact grownBy_putObj_a _ _ _
  have hk2 : KeepsWalks W W2 := by rw [← hW2]; exact KeepsWalks.putObj _ h.L rfl
  have hv2 : W2.heap[Bs]? = some (.cells #[v] 141 (0, 0)) := by rw [← hW2]; exact (World.putObj_heap_other hBl).trans hv
  have hK2 : W2.heap[D]? = some (.deferred (some [])) := by rw [← hW2]; exact (World.putObj_heap_other hDl).trans h.K
  have hL2 : W2.heap[l]? = some (.loop { apRecPr fn sv Bs D .ready none with state := .busy }) := by rw [← hW2]; exact World.putObj_heap_same hl
  have hx2 : W2.heap[W00.heap.size]? = some (.cells #[.int .i64 xf, .string (mkS xc), .int .i64 yf, .string (mkS yc)] 144 (0, 0)) := by rw [← hW2]; exact (World.putObj_heap_other (by omega)).trans hkW
  have hrow2 : W2.ownsRow w0.heap.size 144 4 v ss.length (ss.flatMap cellsPr) := hrow.kept hg2 (ownsRow_ne_a hrow h.L (fun cur e => by cases e))
  have hb2 : Below w0.heap.size w0 W2 := h.below.grown hg2 h.below.size (fun k e => by cases e; exact h0l)
  obtain ⟨hc2, hf2⟩ := cell_of_box_a hv2
  have hxc0 : W2.cell? ⟨W00.heap.size, 0, none⟩ = some (.int .i64 xf) := by simp [World.cell?, hx2]
  have hxc1 : W2.cell? ⟨W00.heap.size, 1, none⟩ = some (.string (mkS xc)) := by simp [World.cell?, hx2]
  have hxc2 : W2.cell? ⟨W00.heap.size, 2, none⟩ = some (.int .i64 yf) := by simp [World.cell?, hx2]
  have hxc3 : W2.cell? ⟨W00.heap.size, 3, none⟩ = some (.string (mkS yc)) := by simp [World.cell?, hx2]
  have hBlt : Bs < W2.heap.size := (Array.getElem?_eq_some_iff.1 hv2).1
  have hl2 : l < W2.heap.size := (Array.getElem?_eq_some_iff.1 hL2).1
  have hDlt : D < W2.heap.size := (Array.getElem?_eq_some_iff.1 hK2).1
  have ne_of : ∀ {j : Nat} {o : Obj}, W2.heap[j]? = some o → (∀ cur, o ≠ .cells cur 144 (0, 0)) → some j ≠ v.ownBlock := fun hj hno => by
    rcases ownsRow_ne_a hrow2 hj hno with e | e
    · rw [e]; simp
    · exact fun e' => e e'.symm
  clear hW2
  unfold apAssignPr
  rw [show prV ((xf, xc), (yf, yc)) = .agg #[.int .i64 xf, .string (mkS xc), .int .i64 yf, .string (mkS yc)] from rfl]
  gi_wp2_with gi_round_op_a
  unfold apBodyPr
  gi_wp2_with (first
    | (gi_at_builtin; refine wpListIn_append_own _ rfl _ _ 141 rfl w0.heap.size 144 i0 (.agg #[.int .i64 0, .string ⟨#[]⟩, .int .i64 0, .string ⟨#[]⟩]) 4 48 (by kernel_rfl) hi hz0 hz1 hz2 rfl (by decide) _ _ _ rfl (hrow2.alloc _) ⟨W2.heap.size, 0, none⟩ 1 1 (cellsPr ((xf, xc), (yf, yc))) rfl rfl (cells_new4 _ _ _ _ _ _) (fun u hu => by simp at hu; rcases hu with rfl | rfl | rfl | rfl <;> rfl) (by omega) (by omega) (by have := hb2.size; simp; omega) ?_; intro v' w3 hown' hg3 hnil3
       have hv3 : w3.heap[Bs]? = some (.cells #[v] 141 (0, 0)) := (hg3.block Bs (by simp; omega) (ne_of hv2 (fun cur e => by cases e))).trans ((Below.heap_alloc _ _ Bs hBlt).trans hv2)
       obtain ⟨hc3, hf3⟩ := cell_of_box_a hv3
       obtain ⟨g', cap', cur', rfl, hbase', hgb', hr1, hr2, hr3, hr4⟩ : ∃ g' cap' cur', v' = .slice (some ⟨g', 0, none⟩) (ss.length + 1) cap' ∧ w0.heap.size ≤ g' ∧ w3.heap[g']? = some (.cells cur' 144 (0, 0)) ∧ ss.length + 1 ≤ cap' ∧ cap' ≤ maxLen ∧ cur'.size = cap' * 4 ∧ cur'.toList.take ((ss.length + 1) * 4) = ss.flatMap cellsPr ++ cellsPr ((xf, xc), (yf, yc)) := by
         rcases hown'.2 with ⟨_, h0⟩ | h'
         · exact absurd h0 (by omega)
         · exact h'
       go_frame)
    | gi_round_op_a)
  have hg3' : (W2.alloc (.cells #[.int .i64 xf, .string (mkS xc), .int .i64 yf, .string (mkS yc)] 144)).grownBy w3 v.ownBlock := hg3
  have hL3 : w3.heap[l]? = some (.loop { apRecPr fn sv Bs D .ready none with state := .busy }) := (hg3'.block l (by simp; omega) (ne_of hL2 (fun cur e => by cases e))).trans ((Below.heap_alloc _ _ l hl2).trans hL2)
  have hK3 : w3.heap[D]? = some (.deferred (some [])) := (hg3'.block D (by simp; omega) (ne_of hK2 (fun cur e => by cases e))).trans ((Below.heap_alloc _ _ D hDlt).trans hK2)
  obtain ⟨w4, hw4⟩ : ∃ w4, w3.setCell ⟨Bs, 0, none⟩ (.slice (some ⟨g', 0, none⟩) (ss.length + 1) cap') = w4 := ⟨_, rfl⟩
  rw [hw4]
  have hg4 : w3.grownBy w4 (some Bs) := by rw [← hw4]; exact grownBy_setCell0_a _ _ _
  have hv4 : w4.heap[Bs]? = some (.cells #[.slice (some ⟨g', 0, none⟩) (ss.length + 1) cap'] 141 (0, 0)) := by rw [← hw4]; exact heap_setCell_box_a _ hv3
  have hL4 : w4.heap[l]? = some (.loop { apRecPr fn sv Bs D .ready none with state := .busy }) := (hg4.block l (Array.getElem?_eq_some_iff.1 hL3).1 (fun e => hBl (by cases e; rfl))).trans hL3
  have hK4 : w4.heap[D]? = some (.deferred (some [])) := (hg4.block D (Array.getElem?_eq_some_iff.1 hK3).1 (fun e => hDB (by cases e; rfl))).trans hK3
  have hrow4 := hown'.kept hg4 (ownsRow_ne_a hown' hv3 (fun cur e => hne (Obj.cells.inj e).2.1))
  have hl4 : l < w4.heap.size := (Array.getElem?_eq_some_iff.1 hL4).1
  have hb3 : Below w0.heap.size w0 w3 := (hb2.alloc hb2.size _).grown hg3' (by have := hb2.size; simp; omega) (fun k e => (hrow2.lt k e).1)
  have hb4 : Below w0.heap.size w0 w4 := hb3.grown hg4 hb3.size (fun k e => by cases e; exact h0B)
  have hk4 : KeepsWalks W w4 := ((hk2.trans (KeepsWalks.alloc _ _)).trans (KeepsWalks.of_grownBy hg3' (ownsRow_not_walk_a (hrow2.alloc _)))).trans (by rw [← hw4]; exact KeepsWalks.setCell _ _ _)
  clear hw4
  refine ⟨_, _, run_endRound none hL4, rfl, ⟨⟨_, (World.putObj_heap_other hBl).trans hv4, ?_, by simp⟩, World.putObj_heap_same hl4, (World.putObj_heap_other hDl).trans hK4, hb4.grown (grownBy_putObj_a _ _ _) hb4.size (fun k e => by cases e; exact h0l)⟩, hk00.trans (hk4.trans (KeepsWalks.putObj _ hL4 rfl))⟩
  have := hrow4.kept (grownBy_putObj_a w4 l (.loop { { apRecPr fn sv Bs D .ready none with state := .busy } with state := if (none : Option Code).isNone then .ready else .done, pending := none })) (ownsRow_ne_a hrow4 hL4 (fun cur e => by cases e))
  simpa using this
def KeysQ (lk : List ((Par × Par) × Value)) (ss : List (Par × Par)) : Prop := ss.Nodup ∧ ∀ k, k ∈ ss ↔ k ∈ lk.map (·.1)
set_option maxRecDepth 100000 in
set_option maxHeartbeats 4000000 in
theorem appendSeqPr (n g : Nat) (lb : Array Value) (eg : ∀ args w, (callFunc g args).run Tryz.prog w = .ok (.enter g args) w) (S : List (Par × Par) → Prop) (N : Nat) (hN : N ≤ 1000000) (w : World) (hseq : SeqGives Fence.wide (n - 1) Tryz.prog g lb prV S N w) :
    CallsIn Fence.wide n Tryz.prog 164 #[.slice none 0 0, .func (.func g) #[] lb] w fun e w' => ∃ (v : Value) (ss : List (Par × Par)), e = .returned v ∧ S ss ∧ w'.ownsRow w.heap.size 144 4 v ss.length (ss.flatMap cellsPr) ∧ (v = .slice none 0 0 ↔ ss = []) ∧ Below w.heap.size w w' := by
  have mixed : Tryz.prog.follows .mixedOrders = true := by kernel_rfl
  have hne : 141 ≠ 144 := by decide
  have hro : Fence.wide.round = none := rfl
  refine callsIn_of_wp_marks Tryz.func164 rfl trivial ?_ rfl
  simp only [Tryz.ntmps164, List.size_toArray, List.length_cons, List.length_nil, Nat.reduceAdd, Nat.reduceSub, Array.replicate_succ, Array.replicate_zero, List.push_toArray, List.append_toArray, List.nil_append, List.cons_append]
  gi_wp2
  refine wpIn_rangeFunc ?_
  intro fn hfn
  rw [hro]
  obtain ⟨W0, hW0⟩ : ∃ W0, w.alloc (.cells #[.slice none 0 0] 141) = W0 := ⟨_, rfl⟩
  have hs0 : W0.heap.size = w.heap.size + 1 := by rw [← hW0]; simp
  have hv0 : W0.heap[w.heap.size]? = some (.cells #[.slice none 0 0] 141 (0, 0)) := by rw [← hW0]; exact World.alloc_heap_new w _
  have hb0 : Below w.heap.size w W0 := by rw [← hW0]; exact (Below.refl _ w).alloc (Nat.le_refl _) _
  rw [hW0]
  obtain ⟨W1, hW1⟩ : ∃ W1, (W0.alloc (.deferred (some []))).alloc (.loop (apRecPr fn (.func (.func g) #[] lb) w.heap.size W0.heap.size .ready none)) = W1 := ⟨_, rfl⟩
  have hold : ∀ k, k < W0.heap.size → W1.heap[k]? = W0.heap[k]? := fun k hk => by
    rw [← hW1]; exact (Below.heap_alloc _ _ k (by simp; omega)).trans (Below.heap_alloc _ _ k hk)
  have hb1 : Below w.heap.size w W1 := by rw [← hW1]; exact (hb0.alloc hb0.size _).alloc (by have := hb0.size; simp; omega) _
  have hs1 : W1.heap.size = W0.heap.size + 2 := by rw [← hW1]; simp
  have hM : ApPr w fn (.func (.func g) #[] lb) w.heap.size (W0.heap.size + 1) W0.heap.size [] W1 :=
    ⟨⟨_, (hold w.heap.size (by omega)).trans hv0, ⟨rfl, .inl ⟨rfl, rfl⟩⟩, by simp⟩,
     by rw [← hW1]; have := World.alloc_heap_new (W0.alloc (.deferred (some []))) (.loop (apRecPr fn (.func (.func g) #[] lb) w.heap.size W0.heap.size .ready none)); rwa [World.size_alloc] at this,
     by rw [← hW1]; exact (Below.heap_alloc _ _ _ (by simp)).trans (World.alloc_heap_new W0 _), hb1⟩
  refine ⟨W0.heap.size + 1, [{ target := .collected W0.heap.size, args := #[] }], W1, { target := .fn (.func g) lb, args := #[.func (.yield (W0.heap.size + 1)) #[] #[]] }, W1, g,
    #[.func (.yield (W0.heap.size + 1)) #[] #[]] ++ lb, W1, ?_, ?_, ?_, ?_, fun h => (by cases h), ?_⟩
  · rw [← hW1]; exact run_enterLoop_outer _ _ _ _ _
  · simp [resolve, go_sem]
  · intro f' hf'; exact trivial
  · simp [invoke, go_sem, eg]
  · refine (hseq (W0.heap.size + 1) (ApPr w fn (.func (.func g) #[] lb) w.heap.size (W0.heap.size + 1) W0.heap.size) W1 hb1 (apPr_abides _ _ _ _ _ _ _ hb1.size)
      (fun pre x W hJ hl => apYieldPr (n - 1 - 1) w fn _ w.heap.size (W0.heap.size + 1) W0.heap.size (by omega) (by omega) (by omega) (Nat.le_refl _) (by omega) N hN pre x W hJ hl) hM).mono ?_
    rintro e W2 ⟨⟨v0, rfl⟩, ss, hS, h2⟩
    obtain ⟨v, hv, hrow, hnil⟩ := h2.box
    have hend := run_endLoop (P := Tryz.prog) h2.L (by simp [apRecPr])
    obtain ⟨W3, hW3⟩ : ∃ W3, W2.putObj (W0.heap.size + 1) (.loop { apRecPr fn (.func (.func g) #[] lb) w.heap.size W0.heap.size .ready none with state := .exhausted }) = W3 := ⟨_, rfl⟩
    rw [hW3] at hend
    have hg3 : W2.grownBy W3 (some (W0.heap.size + 1)) := by rw [← hW3]; exact grownBy_putObj_a _ _ _
    have hv3 : W3.heap[w.heap.size]? = some (.cells #[v] 141 (0, 0)) := by rw [← hW3]; exact (World.putObj_heap_other (by omega)).trans hv
    have hK3 : W3.heap[W0.heap.size]? = some (.deferred (some [])) := by rw [← hW3]; exact (World.putObj_heap_other (by omega)).trans h2.K
    have hrow3 := hrow.kept hg3 (ownsRow_ne_a hrow h2.L (fun cur e => by cases e))
    have hb3 : Below w.heap.size w W3 := h2.below.grown hg3 h2.below.size (fun k e => by cases e; omega)
    obtain ⟨hc3, hf3⟩ := cell_of_box_a hv3
    clear hW3
    refine ⟨none, W3, hend, ?_⟩
    gi_wp2
    rw [← hs0]
    refine ⟨by simp, .inl ⟨_, _, rfl, run_takeDeferred hK3, ?_⟩⟩
    exact ⟨_, results_tmp rfl _ _ _, v, ss, rfl, hS, hrow3.kept (grownBy_putObj_a _ _ _) (ownsRow_ne_a hrow3 hK3 (fun cur e => by cases e)), hnil, hb3.grown (grownBy_putObj_a _ _ _) hb3.size (fun k e => by cases e; omega)⟩
theorem keysGivesPr (n Bm g : Nat) (es : Array MapEntry) (clock : Nat) (lk : List ((Par × Par) × Value)) (hs : Stamped es clock) (hkv : es.toList.map (fun e => (e.key, e.val)) = lk.map (fun p => (prV p.1, p.2))) (hnd : (lk.map (·.1)).Nodup) (w : World) (hm : w.cell? ⟨Bm, 0, none⟩ = some (.map (some g))) (hBm : Bm < w.heap.size) (hg : w.heap[g]? = some (.map es clock)) :
    SeqGives Fence.wide n Tryz.prog 136 #[.pointer (some ⟨Bm, 0, none⟩)] prV (KeysQ lk) lk.length w := fun l J W hW hJ hY h0 => by
  exact keys1Pr n l Bm g es clock lk J hs hkv hnd hY W hJ ((hW.cell (p := ⟨Bm, 0, none⟩) hBm).trans hm) ((hW.block g (lt_of_at hg)).trans hg) h0
set_option maxHeartbeats 4000000 in
theorem collectPr (g : Nat) (lb : Array Value) (eg : ∀ args w, (callFunc g args).run Tryz.prog w = .ok (.enter g args) w) (S : List (Par × Par) → Prop) (N : Nat) (hN : N ≤ 1000000) (w : World) (hseq : SeqGives Fence.wide 0 Tryz.prog g lb prV S N w) :
    Calls Tryz.prog 134 #[.func (.func g) #[] lb] w fun e w' => ∃ (v : Value) (ss : List (Par × Par)), e = .returned v ∧ S ss ∧ w'.ownsRow w.heap.size 144 4 v ss.length (ss.flatMap cellsPr) ∧ (v = .slice none 0 0 ↔ ss = []) ∧ Below w.heap.size w w' := by
  have mixed : Tryz.prog.follows .mixedOrders = true := by kernel_rfl
  have c1 := callsIn_wide.1 (appendSeqPr 1 g lb eg S N hN w hseq)
  clear hseq
  go_enter Tryz.func134, Tryz.ntmps134
  go_wp2_with (go_at_call 164; refine c1.mono ?_; rintro e w' ⟨v, ss, rfl, hS, hrow, hnil, hb⟩)
  go_ret
  exact ⟨v, ss, rfl, hS, hrow, hnil, hb⟩
end Go.Proofs.YtikfmknnbjocmaaGreatDoor
end
section
namespace Go.Proofs
open Go.Shelf
def Tryz.sortPar_ren : Go.Shelf.Ren := ⟨fun | 6 => 132 | 15 => 163 | 14 => 162 | 28 => 191 | 29 => 192 | 20 => 183 | 21 => 184 | 22 => 185 | 23 => 186 | 24 => 187 | 25 => 188 | 26 => 189 | 27 => 190 | 46 => 224 | 47 => 225 | 48 => 226 | 49 => 227 | 50 => 228 | 57 => 245 | n => n, fun | 22 => 41 | 24 => 43 | 25 => 124 | 3 => 3 | 39 => 209 | 0 => 0 | 53 => 233 | 55 => 192 | 4 => 4 | 46 => 227 | 45 => 226 | 50 => 128 | 5 => 5 | 9 => 9 | 66 => 259 | 70 => 262 | 76 => 280 | 77 => 281 | n => n, fun | n => n⟩
theorem Tryz.sortPar : Go.Proofs.SlLaysF0.n6 Tryz.prog Tryz.sortPar_ren := {
  mixed := by kernel_rfl
  f6 := ⟨Tryz.f132.name, by decide, Tryz.func132.trans (congrArg some (by kernel_rfl))⟩
  f14 := ⟨Tryz.f162.name, by decide, Tryz.func162.trans (congrArg some (by kernel_rfl))⟩
  f15 := Tryz.func163.trans (congrArg some (by kernel_rfl))
  f20 := ⟨Tryz.f183.name, by decide, Tryz.func183.trans (congrArg some (by kernel_rfl))⟩
  f21 := ⟨Tryz.f184.name, by decide, Tryz.func184.trans (congrArg some (by kernel_rfl))⟩
  f22 := ⟨Tryz.f185.name, by decide, Tryz.func185.trans (congrArg some (by kernel_rfl))⟩
  f23 := ⟨Tryz.f186.name, by decide, Tryz.func186.trans (congrArg some (by kernel_rfl))⟩
  f24 := ⟨Tryz.f187.name, by decide, Tryz.func187.trans (congrArg some (by kernel_rfl))⟩
  f25 := ⟨Tryz.f188.name, by decide, Tryz.func188.trans (congrArg some (by kernel_rfl))⟩
  f26 := ⟨Tryz.f189.name, by decide, Tryz.func189.trans (congrArg some (by kernel_rfl))⟩
  f27 := ⟨Tryz.f190.name, by decide, Tryz.func190.trans (congrArg some (by kernel_rfl))⟩
  f28 := Tryz.func191.trans (congrArg some (by kernel_rfl))
  f29 := Tryz.func192.trans (congrArg some (by kernel_rfl))
  f46 := ⟨Tryz.f224.name, by decide, Tryz.func224.trans (congrArg some (by kernel_rfl))⟩
  f47 := Tryz.func225.trans (congrArg some (by kernel_rfl))
  f48 := Tryz.func226.trans (congrArg some (by kernel_rfl))
  f49 := ⟨Tryz.f227.name, by decide, Tryz.func227.trans (congrArg some (by kernel_rfl))⟩
  f50 := ⟨Tryz.f228.name, by decide, Tryz.func228.trans (congrArg some (by kernel_rfl))⟩
  f57 := ⟨Tryz.f245.name, by decide, Tryz.func245.trans (congrArg some (by kernel_rfl))⟩
  t0 := Tryz.underlying0
  a0 := Tryz.isAgg0
  z0 := Tryz.sizeOf0
  v0 := Tryz.zeroValue0
  t3 := Tryz.underlying3
  a3 := Tryz.isAgg3
  z3 := Tryz.sizeOf3
  v3 := Tryz.zeroValue3
  t4 := Tryz.underlying4
  a4 := Tryz.isAgg4
  z4 := Tryz.sizeOf4
  v4 := Tryz.zeroValue4
  t5 := Tryz.underlying5
  a5 := Tryz.isAgg5
  z5 := Tryz.sizeOf5
  v5 := Tryz.zeroValue5
  t9 := Tryz.underlying9
  a9 := Tryz.isAgg9
  z9 := Tryz.sizeOf9
  v9 := Tryz.zeroValue9
  t22 := Tryz.underlying41
  a22 := Tryz.isAgg41
  z22 := Tryz.sizeOf41
  v22 := Tryz.zeroValue41
  t25 := Tryz.underlying124
  a25 := Tryz.isAgg124
  z25 := Tryz.sizeOf124
  v25 := Tryz.zeroValue124
  t39 := Tryz.underlying209
  a39 := Tryz.isAgg209
  z39 := Tryz.sizeOf209
  v39 := Tryz.zeroValue209
  t45 := Tryz.underlying226
  a45 := Tryz.isAgg226
  z45 := Tryz.sizeOf226
  v45 := Tryz.zeroValue226
  t46 := Tryz.underlying227
  a46 := Tryz.isAgg227
  z46 := Tryz.sizeOf227
  v46 := Tryz.zeroValue227
  t50 := Tryz.underlying128
  a50 := Tryz.isAgg128
  z50 := Tryz.sizeOf128
  v50 := Tryz.zeroValue128
  t53 := Tryz.underlying233
  a53 := Tryz.isAgg233
  z53 := Tryz.sizeOf233
  v53 := Tryz.zeroValue233
  t55 := Tryz.underlying192
  a55 := Tryz.isAgg192
  z55 := Tryz.sizeOf192
  v55 := Tryz.zeroValue192
  t66 := Tryz.underlying259
  a66 := Tryz.isAgg259
  z66 := Tryz.sizeOf259
  v66 := Tryz.zeroValue259
  t70 := Tryz.underlying262
  a70 := Tryz.isAgg262
  z70 := Tryz.sizeOf262
  v70 := Tryz.zeroValue262
  t76 := Tryz.underlying280
  a76 := Tryz.isAgg280
  z76 := Tryz.sizeOf280
  v76 := Tryz.zeroValue280
  t77 := Tryz.underlying281
  a77 := Tryz.isAgg281
  z77 := Tryz.sizeOf281
  v77 := Tryz.zeroValue281 }
def Tryz.sortPr_ren : Go.Shelf.Ren := ⟨fun | 6 => 135 | 15 => 163 | 14 => 165 | 28 => 191 | 29 => 192 | 20 => 193 | 21 => 194 | 22 => 195 | 23 => 196 | 24 => 197 | 25 => 198 | 26 => 199 | 27 => 200 | 46 => 229 | 47 => 225 | 48 => 226 | 49 => 230 | 50 => 231 | 57 => 246 | n => n, fun | 22 => 141 | 24 => 144 | 25 => 148 | 3 => 3 | 39 => 209 | 0 => 0 | 53 => 233 | 55 => 192 | 4 => 4 | 46 => 227 | 45 => 226 | 50 => 128 | 5 => 5 | 9 => 9 | 66 => 259 | 70 => 262 | 76 => 280 | 77 => 281 | n => n, fun | n => n⟩
theorem Tryz.sortPr : Go.Proofs.SlLaysF0.n6 Tryz.prog Tryz.sortPr_ren := {
  mixed := by kernel_rfl
  f6 := ⟨Tryz.f135.name, by decide, Tryz.func135.trans (congrArg some (by kernel_rfl))⟩
  f14 := ⟨Tryz.f165.name, by decide, Tryz.func165.trans (congrArg some (by kernel_rfl))⟩
  f15 := Tryz.func163.trans (congrArg some (by kernel_rfl))
  f20 := ⟨Tryz.f193.name, by decide, Tryz.func193.trans (congrArg some (by kernel_rfl))⟩
  f21 := ⟨Tryz.f194.name, by decide, Tryz.func194.trans (congrArg some (by kernel_rfl))⟩
  f22 := ⟨Tryz.f195.name, by decide, Tryz.func195.trans (congrArg some (by kernel_rfl))⟩
  f23 := ⟨Tryz.f196.name, by decide, Tryz.func196.trans (congrArg some (by kernel_rfl))⟩
  f24 := ⟨Tryz.f197.name, by decide, Tryz.func197.trans (congrArg some (by kernel_rfl))⟩
  f25 := ⟨Tryz.f198.name, by decide, Tryz.func198.trans (congrArg some (by kernel_rfl))⟩
  f26 := ⟨Tryz.f199.name, by decide, Tryz.func199.trans (congrArg some (by kernel_rfl))⟩
  f27 := ⟨Tryz.f200.name, by decide, Tryz.func200.trans (congrArg some (by kernel_rfl))⟩
  f28 := Tryz.func191.trans (congrArg some (by kernel_rfl))
  f29 := Tryz.func192.trans (congrArg some (by kernel_rfl))
  f46 := ⟨Tryz.f229.name, by decide, Tryz.func229.trans (congrArg some (by kernel_rfl))⟩
  f47 := Tryz.func225.trans (congrArg some (by kernel_rfl))
  f48 := Tryz.func226.trans (congrArg some (by kernel_rfl))
  f49 := ⟨Tryz.f230.name, by decide, Tryz.func230.trans (congrArg some (by kernel_rfl))⟩
  f50 := ⟨Tryz.f231.name, by decide, Tryz.func231.trans (congrArg some (by kernel_rfl))⟩
  f57 := ⟨Tryz.f246.name, by decide, Tryz.func246.trans (congrArg some (by kernel_rfl))⟩
  t0 := Tryz.underlying0
  a0 := Tryz.isAgg0
  z0 := Tryz.sizeOf0
  v0 := Tryz.zeroValue0
  t3 := Tryz.underlying3
  a3 := Tryz.isAgg3
  z3 := Tryz.sizeOf3
  v3 := Tryz.zeroValue3
  t4 := Tryz.underlying4
  a4 := Tryz.isAgg4
  z4 := Tryz.sizeOf4
  v4 := Tryz.zeroValue4
  t5 := Tryz.underlying5
  a5 := Tryz.isAgg5
  z5 := Tryz.sizeOf5
  v5 := Tryz.zeroValue5
  t9 := Tryz.underlying9
  a9 := Tryz.isAgg9
  z9 := Tryz.sizeOf9
  v9 := Tryz.zeroValue9
  t22 := Tryz.underlying141
  a22 := Tryz.isAgg141
  z22 := Tryz.sizeOf141
  v22 := Tryz.zeroValue141
  t25 := Tryz.underlying148
  a25 := Tryz.isAgg148
  z25 := Tryz.sizeOf148
  v25 := Tryz.zeroValue148
  t39 := Tryz.underlying209
  a39 := Tryz.isAgg209
  z39 := Tryz.sizeOf209
  v39 := Tryz.zeroValue209
  t45 := Tryz.underlying226
  a45 := Tryz.isAgg226
  z45 := Tryz.sizeOf226
  v45 := Tryz.zeroValue226
  t46 := Tryz.underlying227
  a46 := Tryz.isAgg227
  z46 := Tryz.sizeOf227
  v46 := Tryz.zeroValue227
  t50 := Tryz.underlying128
  a50 := Tryz.isAgg128
  z50 := Tryz.sizeOf128
  v50 := Tryz.zeroValue128
  t53 := Tryz.underlying233
  a53 := Tryz.isAgg233
  z53 := Tryz.sizeOf233
  v53 := Tryz.zeroValue233
  t55 := Tryz.underlying192
  a55 := Tryz.isAgg192
  z55 := Tryz.sizeOf192
  v55 := Tryz.zeroValue192
  t66 := Tryz.underlying259
  a66 := Tryz.isAgg259
  z66 := Tryz.sizeOf259
  v66 := Tryz.zeroValue259
  t70 := Tryz.underlying262
  a70 := Tryz.isAgg262
  z70 := Tryz.sizeOf262
  v70 := Tryz.zeroValue262
  t76 := Tryz.underlying280
  a76 := Tryz.isAgg280
  z76 := Tryz.sizeOf280
  v76 := Tryz.zeroValue280
  t77 := Tryz.underlying281
  a77 := Tryz.isAgg281
  z77 := Tryz.sizeOf281
  v77 := Tryz.zeroValue281 }
end Go.Proofs
end
section
set_option linter.unusedSectionVars false
set_option linter.unusedVariables false
namespace Go.Proofs.YtikfmknnbjocmaaGreatDoor
open Go.RowKit Go.Sort
def allH (w : World) : PH := fun g => w.heap[g]?
theorem goodH (w : World) : Good (allH w) PH.mt w := ⟨fun _ _ h => h, Part.mt w, fun _ => .inr rfl, fun _ _ _ _ _ _ h _ => h⟩
@[reducible] def Flag.yes : Flag := ⟨True⟩
theorem grown_exact [Fl : Flag] (hF : Fl.on) {w w' : World} {u' : PH} (h : Grown (allH w) PH.mt w u' PH.mt w') : ∃ n os, w' = grow (w.drewN n) os := by
  have hd := h.dr hF
  refine ⟨w'.drawn - w.drawn, w'.heap.extract w.heap.size w'.heap.size, ?_⟩
  obtain ⟨hp, tp, dr, os, out⟩ := w
  obtain ⟨hp', tp', dr', os', out'⟩ := w'
  have h1 := hd.tape
  have h2 := hd.dr
  have h3 := h.io.1
  have h4 := h.io.2
  have h5 := h.sz
  have h6 := fun g hg => h.old g hg rfl
  simp only at h1 h2 h3 h4 h5 h6
  subst h1 h3 h4
  unfold grow World.drewN
  simp only [World.mk.injEq, and_true, true_and]
  refine ⟨?_, by omega⟩
  apply Array.ext_getElem?
  intro i
  by_cases hi : i < hp.size
  · rw [Array.getElem?_append_left hi]; exact h6 i hi
  · rw [Array.getElem?_append_right (by omega), Array.getElem?_extract]
    by_cases hi' : i < hp'.size
    · rw [if_pos (by omega)]; congr 1; omega
    · rw [if_neg (by omega), Array.getElem?_eq_none (by omega)]
theorem Fn0.exact [Fl : Flag] (hF : Fl.on) {P : Program} {f : FuncId} {args : List Value} {r : Value} (h : ∀ u, Fn0 P f args u (fun v _ => v = r)) (w : World) : Calls P f args.toArray w fun e w' => e = .returned r ∧ ∃ n os, w' = grow (w.drewN n) os := by
  refine Calls.mono (h (allH w) w (goodH w)) fun e w' he => ?_
  obtain ⟨v, u', m', e1, _, e3, e4, e5⟩ := he
  subst e4 e5
  exact ⟨e1, grown_exact hF e3⟩
theorem cmpLaysPar (blk off size : Nat) (w : World) : Go.Proofs.CmpLays Tryz.prog 72 #[] (fun p : Par => [.int .i64 p.1, .string (mkS p.2)]) 2 cmpP blk off size w :=
  fun m os dk _ x y => @Fn0.exact Flag.yes trivial _ _ _ _ (fun u => @compare0 Flag.yes u x y) _
theorem cmpLaysPr (blk off size : Nat) (w : World) : Go.Proofs.CmpLays Tryz.prog 92 #[] (fun p : Par × Par => [.int .i64 p.1.1, .string (mkS p.1.2), .int .i64 p.2.1, .string (mkS p.2.2)]) 4 cmpQ blk off size w :=
  fun m os dk _ x y => @Fn0.exact Flag.yes trivial _ _ _ _ (fun u => @comparePairs0 Flag.yes u x y) _
end Go.Proofs.YtikfmknnbjocmaaGreatDoor
end
section
set_option linter.unusedSectionVars false
set_option linter.unusedVariables false
namespace Go.Proofs.YtikfmknnbjocmaaGreatDoor
open Go.RowKit Go.Sort
section
variable {κ : Type} {c : κ → κ → Int}
theorem Ord.swo (h : Ord c) : SWO (ltOf c) where
  irrefl x := by simp [ltOf, h.irr x]
  trans x y z h1 h2 := by
    simp only [ltOf, decide_eq_true_eq] at *
    exact h.trans x y z h1 h2
  ntrans x y z h1 h2 := by
    simp only [ltOf, decide_eq_false_iff_not] at *
    intro h3
    rcases Int.lt_trichotomy (c x y) 0 with e | e | e
    · exact h1 e
    · rw [h.eq x y e] at h3; exact h2 h3
    · exact h2 (h.trans y x z ((h.sym y x).2 e) h3)
theorem Ord.tot (h : Ord c) (x y : κ) (h1 : ltOf c x y = false) (h2 : ltOf c y x = false) : x = y := by
  simp only [ltOf, decide_eq_false_iff_not] at *
  rcases Int.lt_trichotomy (c x y) 0 with e | e | e
  · exact absurd e h1
  · exact h.eq x y e
  · exact absurd ((h.sym y x).2 e) h2
def sorted (c : κ → κ → Int) (l : List κ) : List κ := l.mergeSort fun x y => !(ltOf c) y x
theorem sorted_perm (l : List κ) : (sorted c l).Perm l := List.mergeSort_perm _ _
theorem sorted_sort (h : Ord c) {l : List κ} (hn : l.Nodup) : SortK c (sorted c l) := by
  have h1 : (sorted c l).Pairwise fun a b => (!(ltOf c) b a) = true := by
    refine List.pairwise_mergeSort (fun a b d h1 h2 => ?_) (fun a b => ?_) l
    · simp only [Bool.not_eq_true'] at h1 h2 ⊢
      exact h.swo.ntrans d b a h2 h1
    · simp only [Bool.or_eq_true, Bool.not_eq_true']
      cases e : ltOf c b a with
      | false => exact .inl rfl
      | true =>
        right
        simp only [ltOf, decide_eq_true_eq, decide_eq_false_iff_not] at *
        have := (h.sym b a).1 e
        omega
  have h2 : (sorted c l).Nodup := (sorted_perm l).nodup_iff.2 hn
  refine (h1.and h2).imp fun {a b} ⟨e1, e2⟩ => ?_
  simp only [Bool.not_eq_true', ltOf, decide_eq_false_iff_not] at e1
  rcases Int.lt_trichotomy (c a b) 0 with e | e | e
  · exact e
  · exact absurd (h.eq a b e) e2
  · exact absurd ((h.sym b a).2 e) e1
end
section
variable {κ : Type} [Inhabited κ] {enc : κ → List Value} {k : Nat}
theorem flatMap_at (hk : ∀ x, (enc x).length = k) : ∀ (ss : List κ) (t : Nat), t < ss.length * k → (ss.flatMap enc)[t]? = some ((enc ss.toArray[t / k]!)[t % k]!)
  | [], t, h => by simp at h
  | x :: ss, t, h => by
    have hk0 : 0 < k := by
      rcases Nat.eq_zero_or_pos k with h0 | h0
      · rw [h0] at h; simp at h
      · exact h0
    rw [List.flatMap_cons]
    by_cases ht : t < k
    · rw [List.getElem?_append_left (by rw [hk]; exact ht), Nat.div_eq_of_lt ht, Nat.mod_eq_of_lt ht]
      have : t < (enc x).length := by rw [hk]; exact ht
      simp [getElem!_pos, this]
    · rw [List.getElem?_append_right (by rw [hk]; omega), hk, flatMap_at hk ss (t - k) (by simp only [List.length_cons, Nat.add_mul] at h; omega)]
      have e1 : t / k = (t - k) / k + 1 := by rw [Nat.div_eq_sub_div hk0 (by omega)]
      have e2 : t % k = (t - k) % k := Nat.mod_eq_sub_mod (by omega)
      rw [e1, e2]
      simp
theorem holds_row (hk : ∀ x, (enc x).length = k) {W : World} {gb : Nat} {e : TypeId} {cur : Array Value} {ss : List κ} (hgb : W.heap[gb]? = some (.cells cur e (0, 0))) (hcur : cur.toList.take (ss.length * k) = ss.flatMap enc) : HoldsK enc k W gb 0 ss.toArray := by
  intro t ht
  rw [size_flatK] at ht
  have ht' : t < ss.length * k := by simpa using ht
  have h1 : cur[t]? = some ((flatK enc k ss.toArray)[t]!) := by
    rw [get_flatK enc k _ t ht, ← flatMap_at hk ss t ht', ← hcur, List.getElem?_take, if_pos ht', Array.getElem?_toList]
  constructor
  · simp [World.cell?, hgb, h1]
  · simp [World.frozen?, hgb]
theorem row_at (hk : ∀ x, (enc x).length = k) {W : World} {gb : Nat} {ts : List κ} (h : HoldsK enc k W gb 0 ts.toArray) {j i : Nat} {p : κ} {x : Value} (hj : ts[j]? = some p) (hi : (enc p)[i]? = some x) : W.cell? ⟨gb, j * k + i, none⟩ = some x := by
  obtain ⟨hjl, rfl⟩ := List.getElem?_eq_some_iff.1 hj
  obtain ⟨hil, rfl⟩ := List.getElem?_eq_some_iff.1 hi
  rw [hk] at hil
  have hlt : j * k + i < ts.toArray.size * k := by
    have : (j + 1) * k ≤ ts.length * k := Nat.mul_le_mul_right k hjl
    rw [Nat.add_mul] at this
    simp; omega
  have h1 := (h (j * k + i) (by rw [size_flatK]; exact hlt)).1
  rw [Nat.zero_add, get_flatK enc k _ _ hlt] at h1
  rw [h1]
  have e1 : (j * k + i) / k = j := by rw [Nat.add_comm, Nat.add_mul_div_right _ _ (by omega), Nat.div_eq_of_lt hil]; omega
  have e2 : (j * k + i) % k = i := by rw [Nat.add_comm, Nat.add_mul_mod_self_right, Nat.mod_eq_of_lt hil]
  rw [e1, e2]
  simp [getElem!_pos, hjl, hil, hk]
theorem sortWorld_below {w0 w : World} {blk off m : Nat} {dk : Array κ} {os : Array Obj} (h : Below w0.heap.size w0 w) (hb : w0.heap.size ≤ blk) : Below w0.heap.size w0 (sortWorldK enc k w blk off m dk os) := by
  refine ⟨h.os, h.tape, h.output, Nat.le_trans h.size (size_sortWorldK_c enc k w blk off m dk os), fun j hj => ?_⟩
  rw [← h.block j hj]
  have hjw : j < w.heap.size := Nat.lt_of_lt_of_le hj h.size
  unfold sortWorldK grow putRowK putRow mapBlock Sort.ahead
  simp only
  rw [Array.getElem?_append_left (by rw [Array.size_modify]; exact hjw), Array.getElem?_modify, if_neg (by omega)]
end
theorem Fn0.ofB {P : Program} {f : FuncId} {args : List Value} {u : PH} {R : Value → PH → Prop} (Q : Value → World → World → Prop) (h : ∀ w, Part u w → Calls P f args.toArray w fun e w' => ∃ v, e = .returned v ∧ Q v w w' ∧ Below w.heap.size w w')
    (hq : ∀ v w w' u', Q v w w' → PH.le u u' → (∀ g o, w.heap.size ≤ g → w'.heap[g]? = some o → u' g = some o) → R v u') : Fn0 P f args u R := by
  intro w hg
  refine Calls.mono (h w hg.pu) fun e w' he => ?_
  obtain ⟨v, e1, e2, e3⟩ := he
  have hsz : w.heap.size ≤ w'.heap.size := e3.size
  have hold : ∀ g, g < w.heap.size → w'.heap[g]? = w.heap[g]? := fun g hg => Below.block e3 g hg
  have g1 : Part (fun g => if g < w.heap.size then u g else w'.heap[g]?) w' := by
    intro g o hgo
    simp only at hgo
    split at hgo
    · rename_i hlt; rw [hold g hlt]; exact hg.pu g o hgo
    · exact hgo
  have g2 : Clean (fun g => if g < w.heap.size then u g else w'.heap[g]?) w' := by
    intro g cs t fr j z hgo hj
    simp only
    split
    · rename_i hlt; rw [hold g hlt] at hgo; exact hg.cl g cs t fr j z hgo hj
    · exact hgo
  have g3 : PH.le u (fun g => if g < w.heap.size then u g else w'.heap[g]?) := fun g o hgo => by simp only; rw [if_pos (hg.pu.lt hgo)]; exact hgo
  refine ⟨v, _, PH.mt, e1, ⟨g1, Part.mt _, fun _ => .inr rfl, g2⟩, ⟨hsz, fun g hg _ => hold g hg, fun g hg => by simp only; rw [if_pos hg], fun _ _ h => h, ⟨e3.os, e3.output⟩, fun f => f.elim⟩, rfl, hq v w w' _ e2 g3 (fun g o hgs hgo => by show (if g < w.heap.size then u g else w'.heap[g]?) = some o; rw [if_neg (by omega)]; exact hgo)⟩
end Go.Proofs.YtikfmknnbjocmaaGreatDoor
end
section
set_option linter.unusedSectionVars false
set_option linter.unusedVariables false
namespace Go.Proofs.YtikfmknnbjocmaaGreatDoor
open Go.RowKit Go.MapKept Go.Shelf Go.Sort
def SortedW {κ : Type} (c : κ → κ → Int) (enc : κ → List Value) (k : Nat) (keys : List κ) (v : Value) (w w' : World) : Prop :=
  ∃ (ts : List κ) (a : Option Addr) (cap : Nat), v = .slice a ts.length cap ∧ ts.length ≤ cap ∧ SortK c ts ∧ (∀ x, x ∈ ts ↔ x ∈ keys) ∧ ∀ (j : Nat) (p : κ), ts[j]? = some p → ∃ b, a = some ⟨b, 0, none⟩ ∧ w.heap.size ≤ b ∧ ∀ (i : Nat) (x : Value), (enc p)[i]? = some x → w'.cell? ⟨b, j * k + i, none⟩ = some x
theorem SortedW.list {κ : Type} {c : κ → κ → Int} {enc : κ → List Value} {k : Nat} {keys : List κ} {v : Value} {w w' : World} {u' : PH} (val : κ → Value) (hval : ∀ p, (val p).cells.toList = enc p) (h : SortedW c enc k keys v w w') (hu : ∀ g o, w.heap.size ≤ g → w'.heap[g]? = some o → u' g = some o) :
    ∃ ts : List κ, ListP u' v k (ts.map val) ∧ SortK c ts ∧ ∀ x, x ∈ ts ↔ x ∈ keys := by
  obtain ⟨ts, a, cap, rfl, hc, hs, hm, hcell⟩ := h
  refine ⟨ts, ⟨a, cap, by rw [List.length_map], by rw [List.length_map]; exact hc, fun j e hj => ?_⟩, hs, hm⟩
  rw [List.getElem?_map] at hj
  obtain ⟨p, hp, rfl⟩ := Option.map_eq_some_iff.1 hj
  obtain ⟨b, e, hb, hx⟩ := hcell j p hp
  refine ⟨b, 0, e, fun i x hi => ?_⟩
  rw [← Array.getElem?_toList, hval] at hi
  have h1 := hx i x hi
  unfold World.cell? at h1
  simp only at h1
  split at h1
  · rename_i cs t fr hh
    exact ⟨cs, t, fr, hu b _ hb hh, by rw [Nat.zero_add]; simpa using h1⟩
  · cases h1
theorem cellsPar_len (x : Par) : (cellsPar x).length = 2 := rfl
def pastI (P : Program) (st : List KI × S) : List KI × S := match one P (meet P 200 st).1 (meet P 200 st).2 with | some st' => st' | none => st
section
variable {P : Program} [Mixed P] {fn : Func} {Post : Spec} {st : List KI × S} {u m : PH}
theorem G.pastI (h : G P fn Post (pastI P st) u m) : G P fn Post st u m := by
  unfold Go.Proofs.YtikfmknnbjocmaaGreatDoor.pastI at h
  split at h
  · rename_i st' he
    exact ⟨meet_sound 200 st (one_sound Mixed.mx he h.out)⟩
  · exact h
theorem Fn0.weak {f : FuncId} {args : List Value} {R R' : Value → PH → Prop} (h : Fn0 P f args u R) (hr : ∀ v u', R v u' → R' v u') : Fn0 P f args u R' := fun w hg => Calls.mono (h w hg) fun e w' ⟨v, u', m', e1, e2, e3, e4, e5⟩ => ⟨v, u', m', e1, e2, e3, e4, hr _ _ e5⟩
end
set_option maxHeartbeats 4000000 in
theorem sortedParW (Bm g : Nat) (es : Array MapEntry) (clock : Nat) (lk : List (Par × Value)) (hs : Stamped es clock) (hkv : es.toList.map (fun e => (e.key, e.val)) = lk.map (fun p => (parV p.1, p.2))) (hnd : (lk.map (·.1)).Nodup) (hN : lk.length ≤ 1000000) (w : World) (hm : w.cell? ⟨Bm, 0, none⟩ = some (.map (some g))) (hg : w.heap[g]? = some (.map es clock)) :
    Calls Tryz.prog 88 #[.func (.func 133) #[] #[.pointer (some ⟨Bm, 0, none⟩)], .func (.func 72) #[] #[]] w fun e w' => ∃ v, e = .returned v ∧ SortedW cmpP cellsPar 2 (lk.map (·.1)) v w w' ∧ Below w.heap.size w w' := by
  have mixed : Tryz.prog.follows .mixedOrders = true := by kernel_rfl
  have hBm : Bm < w.heap.size := by
    unfold World.cell? at hm
    split at hm
    · rename_i h; exact lt_of_at h
    · cases hm
  have c1 := collectPar _ _ Tryz.call133 (KeysS lk) lk.length hN w (keysGivesPar 0 Bm g es clock lk hs hkv hnd w hm hBm hg)
  have c2 : ∀ (v : Value) (ss : List Par) (W : World), KeysS lk ss → W.ownsRow w.heap.size 43 2 v ss.length (ss.flatMap cellsPar) → Below w.heap.size w W → Calls Tryz.prog 132 #[v, .func (.func 72) #[] #[]] W fun e w' => e = .returned (.tuple #[]) ∧ SortedW cmpP cellsPar 2 (lk.map (·.1)) v w w' ∧ Below w.heap.size w w' := by
    intro v ss W hS hrow hb
    rcases hrow.2 with ⟨rfl, hz⟩ | ⟨gb, cap, cur, rfl, hbase, hgb, r1, r2, r3, r4⟩
    · have hss : ss = [] := List.eq_nil_of_length_eq_zero hz
      subst hss
      refine (AnyF.slices_SortFunc_none Tryz.sortPar none 0 _ W).mono ?_
      rintro e w' ⟨rfl, rfl⟩
      exact ⟨rfl, ⟨[], none, 0, rfl, Nat.le_refl _, List.Pairwise.nil, hS.2, fun j p hj => by simp at hj⟩, hb⟩
    · have hH : HoldsK cellsPar 2 W gb 0 ss.toArray := holds_row (enc := cellsPar) (k := 2) cellsPar_len hgb r4
      have hgl : gb < W.heap.size := lt_of_at hgb
      have hsz : ss.toArray.size < 4611686018427387904 := by
        have := len_of_sub (fun x : Par => x) (L := ss) (l := lk.map (·.1)) (by simpa using hS.1) (fun p hp => (hS.2 p).1 hp)
        simp at this
        simp
        omega
      have hcon := AnyQ.slices_SortFunc_total Tryz.sortPar 2 (fun w => by kernel_rfl) (fun w => by kernel_rfl) cellsPar (fun _ => rfl) (fun x v hv => by simp at hv; rcases hv with rfl | rfl <;> rfl) cmpP ordP.swo 72 #[] gb 0 cap ss.toArray W Tryz.call72 (cmpLaysPar gb 0 _ W) hH hgl hsz ordP.tot
      change Calls Tryz.prog 132 _ _ _ at hcon
      simp only [List.size_toArray] at hcon
      refine Calls.mono hcon ?_
      rintro e w' ⟨rfl, nn, os, rfl⟩
      have hp := sorted_perm (c := cmpP) ss
      refine ⟨rfl, ⟨sorted cmpP ss, some ⟨gb, 0, none⟩, cap, by rw [hp.length_eq], by rw [hp.length_eq]; exact r1, sorted_sort ordP hS.1, fun x => (hp.mem_iff).trans (hS.2 x), fun j p hj => ⟨gb, rfl, hbase, fun i x hi => ?_⟩⟩, sortWorld_below hb hbase⟩
      have h2 := holdsK_sortWorldK_c cellsPar 2 W gb 0 ss.toArray (sorted cmpP ss).toArray nn os hH hgl (by simp [hp.length_eq])
      exact row_at (enc := cellsPar) (k := 2) cellsPar_len h2 hj hi
  clear hm hg hs hkv hnd
  go_enter Tryz.func88, Tryz.ntmps88
  go_wp2_with (go_at_call 131; refine c1.mono ?_; rintro e w' ⟨v, ss, rfl, hS, hrow, hnil, hb⟩)
  have c3 := c2 v ss w' hS hrow hb
  clear hS hrow hnil hb c2 c1
  go_wp2_with (go_at_call 132; refine c3.mono ?_; rintro e w' ⟨rfl, hSo, hbo⟩)
  go_ret
  exact ⟨v, rfl, hSo, hbo⟩
theorem sortedPar0 {u : PH} {Bm g : Nat} {o : Obj} {lk : List (Par × Value)} (hm : CellP u Bm 0 (.map (some g))) (hg : u g = some o) (ho : MapO parV o lk) (hN : lk.length ≤ 1000000) :
    Fn0 Tryz.prog 88 [.func (.func 133) #[] #[.pointer (some ⟨Bm, 0, none⟩)], .func (.func 72) #[] #[]] u fun v u' => ∃ ts : List Par, ListP u' v 2 (ts.map parV) ∧ SortK cmpP ts ∧ ∀ x, x ∈ ts ↔ x ∈ lk.map (·.1) := by
  have hnd := ho.nodup
  obtain ⟨es, clock, rfl, hkv, hs⟩ := ho
  refine Fn0.ofB (fun v w w' => SortedW cmpP cellsPar 2 (lk.map (·.1)) v w w') (fun w hp => ?_) (fun v w w' u' h _ hu => SortedW.list (enc := cellsPar) parV (fun _ => rfl) h hu)
  exact sortedParW Bm g es clock lk hs hkv hnd hN w (hm.cell hp) (hp g _ hg)
theorem keysPar0 {u : PH} {g : Nat} : Fn0 Tryz.prog 89 [.map (some g)] u fun v u' => ∃ b, v = .func (.func 133) #[] #[.pointer (some ⟨b, 0, none⟩)] ∧ CellP u' b 0 (.map (some g)) := by
  have h : Contract Tryz.prog 89 [.map (some g)] u PH.mt (fun v u' m' => ∃ b, v = .func (.func 133) #[] #[.pointer (some ⟨b, 0, none⟩)] ∧ CellP m' b 0 (.map (some g))) := by
    refine Contract.of Tryz.func89 (by kernel_rfl) (by kernel_rfl) ?_
    refine G.pastI ?_
    refine G.pub 0 89 [.map (some g)] (by kernel_rfl) (by kernel_rfl) ?_
    intro b hu hm
    exact G.ret (.func (.func 133) #[] #[.pointer (some ⟨b, 0, none⟩)]) (by kernel_rfl) ⟨b, rfl, _, _, _, upd_same _ _ _, rfl⟩
  refine Fn0.weak h.giveAll ?_
  rintro v u' ⟨u1, m1, _, l2, b, e, hc⟩
  exact ⟨b, e, hc.mono l2⟩
end Go.Proofs.YtikfmknnbjocmaaGreatDoor
end
section
set_option linter.unusedSectionVars false
set_option linter.unusedVariables false
namespace Go.Proofs.YtikfmknnbjocmaaGreatDoor
open Go.RowKit Go.MapKept Go.Shelf Go.Sort
theorem cellsPr_len (x : Par × Par) : (cellsPr x).length = 4 := rfl
set_option maxHeartbeats 4000000 in
theorem sortedPrW (Bm g : Nat) (es : Array MapEntry) (clock : Nat) (lk : List ((Par × Par) × Value)) (hs : Stamped es clock) (hkv : es.toList.map (fun e => (e.key, e.val)) = lk.map (fun p => (prV p.1, p.2))) (hnd : (lk.map (·.1)).Nodup) (hN : lk.length ≤ 1000000) (w : World) (hm : w.cell? ⟨Bm, 0, none⟩ = some (.map (some g))) (hg : w.heap[g]? = some (.map es clock)) :
    Calls Tryz.prog 90 #[.func (.func 136) #[] #[.pointer (some ⟨Bm, 0, none⟩)], .func (.func 92) #[] #[]] w fun e w' => ∃ v, e = .returned v ∧ SortedW cmpQ cellsPr 4 (lk.map (·.1)) v w w' ∧ Below w.heap.size w w' := by
  have mixed : Tryz.prog.follows .mixedOrders = true := by kernel_rfl
  have hBm : Bm < w.heap.size := by
    unfold World.cell? at hm
    split at hm
    · rename_i h; exact lt_of_at h
    · cases hm
  have c1 := collectPr _ _ Tryz.call136 (KeysQ lk) lk.length hN w (keysGivesPr 0 Bm g es clock lk hs hkv hnd w hm hBm hg)
  have c2 : ∀ (v : Value) (ss : List (Par × Par)) (W : World), KeysQ lk ss → W.ownsRow w.heap.size 144 4 v ss.length (ss.flatMap cellsPr) → Below w.heap.size w W → Calls Tryz.prog 135 #[v, .func (.func 92) #[] #[]] W fun e w' => e = .returned (.tuple #[]) ∧ SortedW cmpQ cellsPr 4 (lk.map (·.1)) v w w' ∧ Below w.heap.size w w' := by
    intro v ss W hS hrow hb
    rcases hrow.2 with ⟨rfl, hz⟩ | ⟨gb, cap, cur, rfl, hbase, hgb, r1, r2, r3, r4⟩
    · have hss : ss = [] := List.eq_nil_of_length_eq_zero hz
      subst hss
      refine (AnyF.slices_SortFunc_none Tryz.sortPr none 0 _ W).mono ?_
      rintro e w' ⟨rfl, rfl⟩
      exact ⟨rfl, ⟨[], none, 0, rfl, Nat.le_refl _, List.Pairwise.nil, hS.2, fun j p hj => by simp at hj⟩, hb⟩
    · have hH : HoldsK cellsPr 4 W gb 0 ss.toArray := holds_row (enc := cellsPr) (k := 4) cellsPr_len hgb r4
      have hgl : gb < W.heap.size := lt_of_at hgb
      have hsz : ss.toArray.size < 4611686018427387904 := by
        have := len_of_sub (fun x : Par × Par => x) (L := ss) (l := lk.map (·.1)) (by simpa using hS.1) (fun p hp => (hS.2 p).1 hp)
        simp at this
        simp
        omega
      have hcon := AnyQ.slices_SortFunc_total Tryz.sortPr 4 (fun w => by kernel_rfl) (fun w => by kernel_rfl) cellsPr (fun _ => rfl) (fun x v hv => by simp at hv; rcases hv with rfl | rfl | rfl | rfl <;> rfl) cmpQ ordQ.swo 92 #[] gb 0 cap ss.toArray W Tryz.call92 (cmpLaysPr gb 0 _ W) hH hgl hsz ordQ.tot
      change Calls Tryz.prog 135 _ _ _ at hcon
      simp only [List.size_toArray] at hcon
      refine Calls.mono hcon ?_
      rintro e w' ⟨rfl, nn, os, rfl⟩
      have hp := sorted_perm (c := cmpQ) ss
      refine ⟨rfl, ⟨sorted cmpQ ss, some ⟨gb, 0, none⟩, cap, by rw [hp.length_eq], by rw [hp.length_eq]; exact r1, sorted_sort ordQ hS.1, fun x => (hp.mem_iff).trans (hS.2 x), fun j p hj => ⟨gb, rfl, hbase, fun i x hi => ?_⟩⟩, sortWorld_below hb hbase⟩
      have h2 := holdsK_sortWorldK_c cellsPr 4 W gb 0 ss.toArray (sorted cmpQ ss).toArray nn os hH hgl (by simp [hp.length_eq])
      exact row_at (enc := cellsPr) (k := 4) cellsPr_len h2 hj hi
  clear hm hg hs hkv hnd
  go_enter Tryz.func90, Tryz.ntmps90
  go_wp2_with (go_at_call 134; refine c1.mono ?_; rintro e w' ⟨v, ss, rfl, hS, hrow, hnil, hb⟩)
  have c3 := c2 v ss w' hS hrow hb
  clear hS hrow hnil hb c2 c1
  go_wp2_with (go_at_call 135; refine c3.mono ?_; rintro e w' ⟨rfl, hSo, hbo⟩)
  go_ret
  exact ⟨v, rfl, hSo, hbo⟩
theorem sortedPr0 {u : PH} {Bm g : Nat} {o : Obj} {lk : List ((Par × Par) × Value)} (hm : CellP u Bm 0 (.map (some g))) (hg : u g = some o) (ho : MapO prV o lk) (hN : lk.length ≤ 1000000) :
    Fn0 Tryz.prog 90 [.func (.func 136) #[] #[.pointer (some ⟨Bm, 0, none⟩)], .func (.func 92) #[] #[]] u fun v u' => ∃ ts : List (Par × Par), ListP u' v 4 (ts.map prV) ∧ SortK cmpQ ts ∧ ∀ x, x ∈ ts ↔ x ∈ lk.map (·.1) := by
  have hnd := ho.nodup
  obtain ⟨es, clock, rfl, hkv, hs⟩ := ho
  refine Fn0.ofB (fun v w w' => SortedW cmpQ cellsPr 4 (lk.map (·.1)) v w w') (fun w hp => ?_) (fun v w w' u' h _ hu => SortedW.list (enc := cellsPr) prV (fun _ => rfl) h hu)
  exact sortedPrW Bm g es clock lk hs hkv hnd hN w (hm.cell hp) (hp g _ hg)
theorem keysPr0 {u : PH} {g : Nat} : Fn0 Tryz.prog 91 [.map (some g)] u fun v u' => ∃ b, v = .func (.func 136) #[] #[.pointer (some ⟨b, 0, none⟩)] ∧ CellP u' b 0 (.map (some g)) := by
  have h : Contract Tryz.prog 91 [.map (some g)] u PH.mt (fun v u' m' => ∃ b, v = .func (.func 136) #[] #[.pointer (some ⟨b, 0, none⟩)] ∧ CellP m' b 0 (.map (some g))) := by
    refine Contract.of Tryz.func91 (by kernel_rfl) (by kernel_rfl) ?_
    refine G.pastI ?_
    refine G.pub 0 90 [.map (some g)] (by kernel_rfl) (by kernel_rfl) ?_
    intro b hu hm
    exact G.ret (.func (.func 136) #[] #[.pointer (some ⟨b, 0, none⟩)]) (by kernel_rfl) ⟨b, rfl, _, _, _, upd_same _ _ _, rfl⟩
  refine Fn0.weak h.giveAll ?_
  rintro v u' ⟨u1, m1, _, l2, b, e, hc⟩
  exact ⟨b, e, hc.mono l2⟩
end Go.Proofs.YtikfmknnbjocmaaGreatDoor
end
section
set_option linter.unusedSectionVars false
set_option linter.unusedVariables false
namespace Go.Proofs.YtikfmknnbjocmaaGreatDoor
open Go.RowKit Go.MapKept
theorem ArrAt.le {m0 m : PH} {v : Value} {t : TypeId} {sz : Nat} {es : List Value} (h : ArrAt m0 m v t sz es) : PH.le m0 m := by
  rcases h.2 with ⟨_, _, rfl⟩ | ⟨g, cap, rest, hg0, rfl, _⟩
  · exact PH.le_refl _
  · exact le_upd _ hg0
theorem text0 {u : PH} {x p : Value} {q : Rat} (ht : TabU u) (h : FracP u x q) (hq : Tx q) : Fn0 Tryz.prog 86 [x, p] u fun v _ => v = .string (mkS (ratT q)) := by
  obtain ⟨b, a, n, c, b', a', n', c', rfl⟩ := h.opn
  refine Fn0.of Tryz.func86 (by kernel_rfl) (by kernel_rfl) ?_
  refine G.call0 _ _ (by kernel_rfl) Tryz.call87 (fracFits0 ht h hq) ?_
  rintro v1 u1 l1 rfl
  refine G.neqF 0 0 (by kernel_rfl) (by omega) ?_
  exact G.ret _ (by kernel_rfl) ⟨rfl, rfl⟩
theorem termV_ok (p : Par × Rat) : ElsOK 3 [termV p] := fun e he => by
  simp at he; subst he
  exact ⟨rfl, fun y hy => by simp [termV, Value.cells] at hy; rcases hy with rfl | rfl | rfl <;> rfl⟩
theorem prtV_ok (p : (Par × Par) × Rat) : ElsOK 5 [prtV p] := fun e he => by
  simp at he; subst he
  exact ⟨rfl, fun y hy => by simp [prtV, Value.cells] at hy; rcases hy with rfl | rfl | rfl | rfl | rfl <;> rfl⟩
theorem can_keys {κ : Type} {c : κ → κ → Int} {f : κ → Rat} {ts keys : List κ} (hs : SortK c ts) (hm : ∀ x, x ∈ ts ↔ x ∈ keys) (h0 : ∀ p ∈ keys, f p ≠ 0) (h1 : ∀ k, k ∉ keys → f k = 0) : Can c f (ts.map fun p => (p, f p)) := by
  have e : (ts.map fun p => (p, f p)).map (·.1) = ts := by rw [List.map_map]; simp [Function.comp_def]
  refine ⟨by rw [e]; exact hs, fun p hp => ?_, fun k hk => h1 k fun h => hk (by rw [e]; exact (hm k).2 h)⟩
  obtain ⟨x, hx, rfl⟩ := List.mem_map.1 hp
  exact ⟨rfl, h0 x ((hm x).1 hx)⟩
set_option maxHeartbeats 8000000 in
theorem cofactor0 {u : PH} {F : CF} {N : Nat} {v : Value} (ht : TabU u) (hv : MomP u v F N) (sF : CFS F) (hN : N ≤ 1000000) :
    Fn0 Tryz.prog 44 [v] u fun v' u' => ∃ r, v' = .tuple #[r, .int .i64 0] ∧ CofP u' r F N := by
  obtain ⟨b, a, n, c, b', a', n', c', g1, g2, o1, o2, rfl, hc, e1, e2, h1, h2⟩ := hv
  obtain ⟨k1, ho1, q1, z1, n1⟩ := h1.at
  obtain ⟨k2, ho2, q2, z2, n2⟩ := h2.at
  refine Fn0.of Tryz.func44 (by kernel_rfl) (by kernel_rfl) ?_
  refine G.pastI ?_
  refine G.pastI ?_
  refine G.pub 1000 45 [.int .i64 0] (by kernel_rfl) (by kernel_rfl) ?_
  intro e hu hm
  refine G.call0 _ _ (by kernel_rfl) Tryz.call86 (text0 (p := .pointer (some ⟨e, 0, none⟩)) ht hc (SB.tx sF.c)) ?_
  rintro v1 u1 l1 rfl
  refine G.call0 _ _ (by kernel_rfl) Tryz.call89 (keysPar0 (g := g1)) ?_
  rintro v2 u2 l2 ⟨b2, rfl, hb2⟩
  refine G.call0 _ _ (by kernel_rfl) Tryz.call88 (sortedPar0 hb2 ((l1.trans l2) _ _ e1) ho1 (by omega)) ?_
  rintro v3 u3 l3 ⟨ts, hts, hss, hsm⟩
  have le3 := (l1.trans l2).trans l3
  obtain ⟨ta, tc, rfl⟩ := ListP.opn hts
  rw [List.length_map] at hts ⊢
  have hlen : ts.length ≤ N := by
    have := len_of_sub (fun x : Par => x) (L := ts) (l := k1.map (·.1)) (by simpa using hss.nodup ordP) (fun p hp => (hsm p).1 hp)
    simp at this; omega
  obtain ⟨m0, hm0⟩ : ∃ m0 : PH, m0 = PH.mt.upd e (.cells [Value.int .i64 0].toArray 45 (0, 0)) := ⟨_, rfl⟩
  rw [← hm0]
  refine G.loop (ι := Nat × (Option Addr × Nat × Nat)) (fun i => [(1, .p 0 0), (2, .p 1 0), (4, .v (.pointer (some ⟨e, 0, none⟩))), (5, .v (.func (.func 86) #[] #[.pointer (some ⟨e, 0, none⟩)])), (6, .p 3005 0), (20, .v (.slice ta ts.length tc)), (21, .v (.int .i64 (ts.length : Int))), (22, .v (.int .i64 (i.1 : Int)))])
    (fun i => [(0, ⟨92, [.v (.bool b), .v (.slice a n c), .v (.bool b'), .v (.slice a' n' c'), .v (.map (some g1)), .v (.map (some g2))]⟩), (1, ⟨38, [.v (.string (mkS [])), .v (.slice none 0 0), .v (.slice none 0 0)]⟩), (3005, ⟨38, [.v (.string (mkS (ratT F.c))), .v (.slice i.2.1 i.2.2.1 i.2.2.2), .v (.slice none 0 0)]⟩)])
    (fun i u' m' => i.1 ≤ ts.length ∧ ArrAt m0 m' (.slice i.2.1 i.2.2.1 i.2.2.2) 99 3 ((ts.take i.1).map fun p => termV (p, F.s p)))
    (fun i => ts.length - i.1) (0, (none, 0, 0)) (by kernel_rfl) (fun _ => by kernel_rfl) ⟨by kernel_rfl, by kernel_rfl, by kernel_rfl⟩ ⟨by simp, ArrAt.nil _ _ _⟩ ?_
  rintro J ⟨i, ⟨xa, xn, xc⟩⟩ hJ u4 m4 l4 ⟨hi, hA⟩
  simp only at hi hA hJ
  have le4 := le3.trans l4
  by_cases hlt : i < ts.length
  · refine G.lssT (i : Int) (ts.length : Int) (by kernel_rfl) (by omega) ?_
    have hTi : ts[i]? = some ts[i] := List.getElem?_eq_getElem hlt
    obtain ⟨ba, oa, rfl, ea⟩ := ListP.at' (hts.mono l4) (j := i) (e := parV ts[i]) (by simp [hTi])
    obtain ⟨y, hy, hye⟩ := List.mem_map.1 ((hsm ts[i]).1 (List.getElem_mem hlt))
    obtain ⟨hfy, hy0, _⟩ := q1 y hy
    have has := assoc_of_mem ho1.nodup (show (y.1, y.2) ∈ k1 from hy)
    rw [hye] at has hfy
    obtain ⟨w1, w2, w3, w4, w5, w6, w7, w8, hwe⟩ := hfy.opn
    rw [hwe] at has hfy
    refine G.addr ba oa ts.length tc i 2 (by kernel_rfl) (by omega) ?_
    refine G.loadU (some 2) ba (oa + i * 2) (.agg #[.int .i64 ts[i].1, .string (mkS ts[i].2)]) (by kernel_rfl) (by kernel_rfl) ea ?_
    refine G.mapIs (et := 88) keyPar fz g1 o1 k1 ts[i] (.agg #[.bool w1, .slice w2 w3 w4, .bool w5, .slice w6 w7 w8]) (by kernel_rfl) (by kernel_rfl) (.inl (le4 _ _ e1)) ho1 has ?_
    refine G.call0 _ _ (by kernel_rfl) Tryz.call86 (text0 (p := .pointer (some ⟨e, 0, none⟩)) (ht.mono le4) (hfy.mono le4) (SB.tx (sF.s _))) ?_
    rintro v5 u5 l5 rfl
    refine G.buildU 99 3 40 (.agg #[.int .i64 0, .string (mkS []), .string (mkS [])]) [.agg #[.int .i64 ts[i].1, .string (mkS ts[i].2), .string (mkS (ratT (F.s ts[i])))]] (by kernel_rfl) (termV_ok (ts[i], F.s ts[i])) rfl (by omega) (by simp) (by simp) ?_
    intro g6 u6 l6 e6
    have hel : ((ts.take i).map fun p => termV (p, F.s p)).length = i := by simp; omega
    refine G.append 99 3 40 (.agg #[.int .i64 0, .string (mkS []), .string (mkS [])]) m0 ((ts.take i).map fun p => termV (p, F.s p)) [.agg #[.int .i64 ts[i].1, .string (mkS ts[i].2), .string (mkS (ratT (F.s ts[i])))]] (.slice xa xn xc) g6 0 1 1 (by kernel_rfl) rfl rfl (by omega) hA e6 (termV_ok (ts[i], F.s ts[i])) rfl (by omega) (by omega) (by omega) ?_
    intro v7 m7 hA7
    rw [show ((ts.take i).map fun p => termV (p, F.s p)) ++ [.agg #[.int .i64 ts[i].1, .string (mkS ts[i].2), .string (mkS (ratT (F.s ts[i])))]] = (ts.take (i + 1)).map fun p => termV (p, F.s p) by rw [List.take_add_one, hTi, List.map_append]; rfl] at hA7
    obtain ⟨a7, c7, rfl⟩ := hA7.shape
    refine G.add (i : Int) 1 ((i + 1 : Nat) : Int) (by kernel_rfl) (by omega) (by omega) (by omega) ?_
    exact G.back (by kernel_rfl) (hJ (i + 1, (a7, ((ts.take (i + 1)).map fun p => termV (p, F.s p)).length, c7)) _ _ _ ⟨by kernel_rfl, by kernel_rfl, by kernel_rfl⟩ ((l4.trans l5).trans l6) ⟨by dsimp only; omega, hA7⟩ (by dsimp only; omega))
  obtain rfl : i = ts.length := by omega
  refine G.lssF (ts.length : Int) (ts.length : Int) (by kernel_rfl) (by omega) ?_
  rw [List.take_length] at hA
  have hxn : xn = ts.length := by have := hA.len; simpa using this
  subst hxn
  refine G.call0 _ _ (by kernel_rfl) Tryz.call91 (keysPr0 (g := g2)) ?_
  rintro v5 u5 l5 ⟨b5, rfl, hb5⟩
  refine G.call0 _ _ (by kernel_rfl) Tryz.call90 (sortedPr0 hb5 ((le4.trans l5) _ _ e2) ho2 (by omega)) ?_
  rintro v6 u6 l6 ⟨qs, hqs, hqss, hqsm⟩
  have le6 := (le4.trans l5).trans l6
  obtain ⟨qa, qc, rfl⟩ := ListP.opn hqs
  rw [List.length_map] at hqs ⊢
  have hlen2 : qs.length ≤ N := by
    have := len_of_sub (fun x : Par × Par => x) (L := qs) (l := k2.map (·.1)) (by simpa using hqss.nodup ordQ) (fun p hp => (hqsm p).1 hp)
    simp at this; omega
  refine G.loop (ι := Nat × (Option Addr × Nat × Nat)) (fun i => [(1, .p 0 0), (2, .p 1 0), (4, .v (.pointer (some ⟨e, 0, none⟩))), (5, .v (.func (.func 86) #[] #[.pointer (some ⟨e, 0, none⟩)])), (6, .p 3005 0), (43, .v (.slice qa qs.length qc)), (44, .v (.int .i64 (qs.length : Int))), (45, .v (.int .i64 (i.1 : Int)))])
    (fun i => [(0, ⟨92, [.v (.bool b), .v (.slice a n c), .v (.bool b'), .v (.slice a' n' c'), .v (.map (some g1)), .v (.map (some g2))]⟩), (1, ⟨38, [.v (.string (mkS [])), .v (.slice none 0 0), .v (.slice none 0 0)]⟩), (3005, ⟨38, [.v (.string (mkS (ratT F.c))), .v (.slice xa ts.length xc), .v (.slice i.2.1 i.2.2.1 i.2.2.2)]⟩)])
    (fun i u' m' => i.1 ≤ qs.length ∧ ArrAt m4 m' (.slice i.2.1 i.2.2.1 i.2.2.2) 102 5 ((qs.take i.1).map fun p => prtV (p, F.t p)))
    (fun i => qs.length - i.1) (0, (none, 0, 0)) (by kernel_rfl) (fun _ => by kernel_rfl) ⟨by kernel_rfl, by kernel_rfl, by kernel_rfl⟩ ⟨by simp, ArrAt.nil _ _ _⟩ ?_
  rintro J2 ⟨i, ⟨ya, yn, yc⟩⟩ hJ2 u7 m7 l7 ⟨hi2, hB⟩
  simp only at hi2 hB hJ2
  have le7 := le6.trans l7
  by_cases hlt : i < qs.length
  · refine G.lssT (i : Int) (qs.length : Int) (by kernel_rfl) (by omega) ?_
    have hTi : qs[i]? = some qs[i] := List.getElem?_eq_getElem hlt
    obtain ⟨ba, oa, rfl, ea⟩ := ListP.at' (hqs.mono l7) (j := i) (e := prV qs[i]) (by simp [hTi])
    obtain ⟨y, hy, hye⟩ := List.mem_map.1 ((hqsm qs[i]).1 (List.getElem_mem hlt))
    obtain ⟨hfy, hy0, _⟩ := q2 y hy
    have has := assoc_of_mem ho2.nodup (show (y.1, y.2) ∈ k2 from hy)
    rw [hye] at has hfy
    obtain ⟨w1, w2, w3, w4, w5, w6, w7, w8, hwe⟩ := hfy.opn
    rw [hwe] at has hfy
    refine G.addr ba oa qs.length qc i 4 (by kernel_rfl) (by omega) ?_
    refine G.loadU (some 4) ba (oa + i * 4) (.agg #[.int .i64 qs[i].1.1, .string (mkS qs[i].1.2), .int .i64 qs[i].2.1, .string (mkS qs[i].2.2)]) (by kernel_rfl) (by kernel_rfl) ea ?_
    refine G.mapIs (et := 88) keyPr fz g2 o2 k2 qs[i] (.agg #[.bool w1, .slice w2 w3 w4, .bool w5, .slice w6 w7 w8]) (by kernel_rfl) (by kernel_rfl) (.inl (le7 _ _ e2)) ho2 has ?_
    refine G.call0 _ _ (by kernel_rfl) Tryz.call86 (text0 (p := .pointer (some ⟨e, 0, none⟩)) (ht.mono le7) (hfy.mono le7) (SB.tx (sF.t _))) ?_
    rintro v8 u8 l8 rfl
    refine G.buildU 102 5 64 (.agg #[.int .i64 0, .string (mkS []), .int .i64 0, .string (mkS []), .string (mkS [])]) [.agg #[.int .i64 qs[i].1.1, .string (mkS qs[i].1.2), .int .i64 qs[i].2.1, .string (mkS qs[i].2.2), .string (mkS (ratT (F.t qs[i])))]] (by kernel_rfl) (prtV_ok (qs[i], F.t qs[i])) rfl (by omega) (by simp) (by simp) ?_
    intro g9 u9 l9 e9
    have hel : ((qs.take i).map fun p => prtV (p, F.t p)).length = i := by simp; omega
    refine G.append 102 5 64 (.agg #[.int .i64 0, .string (mkS []), .int .i64 0, .string (mkS []), .string (mkS [])]) m4 ((qs.take i).map fun p => prtV (p, F.t p)) [.agg #[.int .i64 qs[i].1.1, .string (mkS qs[i].1.2), .int .i64 qs[i].2.1, .string (mkS qs[i].2.2), .string (mkS (ratT (F.t qs[i])))]] (.slice ya yn yc) g9 0 1 1 (by kernel_rfl) rfl rfl (by omega) hB e9 (prtV_ok (qs[i], F.t qs[i])) rfl (by omega) (by omega) (by omega) ?_
    intro v10 m10 hB10
    rw [show ((qs.take i).map fun p => prtV (p, F.t p)) ++ [.agg #[.int .i64 qs[i].1.1, .string (mkS qs[i].1.2), .int .i64 qs[i].2.1, .string (mkS qs[i].2.2), .string (mkS (ratT (F.t qs[i])))]] = (qs.take (i + 1)).map fun p => prtV (p, F.t p) by rw [List.take_add_one, hTi, List.map_append]; rfl] at hB10
    obtain ⟨a10, c10, rfl⟩ := hB10.shape
    refine G.add (i : Int) 1 ((i + 1 : Nat) : Int) (by kernel_rfl) (by omega) (by omega) (by omega) ?_
    exact G.back (by kernel_rfl) (hJ2 (i + 1, (a10, ((qs.take (i + 1)).map fun p => prtV (p, F.t p)).length, c10)) _ _ _ ⟨by kernel_rfl, by kernel_rfl, by kernel_rfl⟩ ((l7.trans l8).trans l9) ⟨by dsimp only; omega, hB10⟩ (by dsimp only; omega))
  obtain rfl : i = qs.length := by omega
  refine G.lssF (qs.length : Int) (qs.length : Int) (by kernel_rfl) (by omega) ?_
  rw [List.take_length] at hB
  have hyn : yn = qs.length := by have := hB.len; simpa using this
  subst hyn
  have hme : m7 e = some (.cells [Value.int .i64 0].toArray 45 (0, 0)) := hB.le _ _ (hA.le _ _ (by rw [hm0]; exact upd_same _ _ _))
  refine G.loadM none e 0 (.int .i64 0) (by kernel_rfl) (by kernel_rfl) (fun i y hy => by
    match i, hy with
    | 0, hy => simp [Value.cells] at hy; subst hy; exact ⟨_, _, _, hme, rfl⟩
    | k + 1, hy => simp [Value.cells] at hy) ?_
  refine G.neqF 0 0 (by kernel_rfl) (by omega) ?_
  refine G.give m4 _ _ (by kernel_rfl) hB (fun _ => .inl rfl) ?_
  intro u8 l8 hLq
  refine G.give m0 _ _ (by kernel_rfl) hA (fun _ => .inl rfl) ?_
  intro u9 l9 hLt
  refine G.drop PH.mt (by kernel_rfl) (PH.mt_le _) ?_
  refine G.ret (.tuple #[.agg #[.string (mkS (ratT F.c)), .slice xa ts.length xc, .slice ya qs.length yc], .int .i64 0]) (by kernel_rfl) ⟨rfl, _, rfl, ts.map (fun p => (p, F.s p)), qs.map (fun p => (p, F.t p)), xa, xc, ya, yc, by rw [List.length_map, List.length_map], ?_, ?_, can_keys hss hsm (fun p hp => ?_) z1, can_keys hqss hqsm (fun p hp => ?_) z2, by rw [List.length_map]; exact hlen, by rw [List.length_map]; exact hlen2⟩
  · rw [List.length_map, List.map_map]; exact hLt
  · rw [List.length_map, List.map_map]; exact hLq.mono l9
  · obtain ⟨y, hy, rfl⟩ := List.mem_map.1 hp
    exact (q1 y hy).2.1 rfl
  · obtain ⟨y, hy, rfl⟩ := List.mem_map.1 hp
    exact (q2 y hy).2.1 rfl
end Go.Proofs.YtikfmknnbjocmaaGreatDoor
end
section
set_option linter.unusedSectionVars false
set_option linter.unusedVariables false
namespace Go.Proofs.YtikfmknnbjocmaaGreatDoor
open Go.RowKit Go.MapKept
theorem ratT_ne0 {q : Rat} (h : q ≠ 0) : ratT q ≠ [48] := by
  intro e
  unfold ratT at e
  split at e
  · have := itoa_inj (e.trans itoa_zero.symm)
    exact h (Rat.num_eq_zero.1 this)
  · have : (47 : UInt8) ∈ Lib.itoa q.num ++ 47 :: Lib.itoa (q.den : Int) := by simp
    rw [e] at this
    simp at this
theorem less0 {u : PH} (p q : Par) (r : Bool) (h : decide (cmpP p q < 0) = r) : Fn0 Tryz.prog 35 [parV p, parV q] u fun v _ => v = .bool r := by
  refine Fn0.of Tryz.func35 (by kernel_rfl) (by kernel_rfl) ?_
  refine G.call0 _ _ (by kernel_rfl) Tryz.call72 (compare0 p q) ?_
  rintro v1 u1 l1 rfl
  cases r with
  | true =>
    refine G.lssT (cmpP p q) 0 (by kernel_rfl) (of_decide_eq_true h) ?_
    exact G.ret (.bool true) (by kernel_rfl) ⟨rfl, rfl⟩
  | false =>
    refine G.lssF (cmpP p q) 0 (by kernel_rfl) (of_decide_eq_false h) ?_
    exact G.ret (.bool false) (by kernel_rfl) ⟨rfl, rfl⟩
theorem entry0 {u : PH} {q : Rat} (h : Tx q) (h0 : q ≠ 0) : Fn0 Tryz.prog 65 [.string (mkS (ratT q))] u fun v _ => v = .bool true := by
  refine Fn0.of Tryz.func65 (by kernel_rfl) (by kernel_rfl) ?_
  refine G.call0 _ _ (by kernel_rfl) Tryz.call52 (ratValid0 h) ?_
  rintro v1 u1 l1 rfl
  refine G.neST (ratT q) [48] (by kernel_rfl) (ratT_ne0 h0) ?_
  exact G.ret (.bool true) (by kernel_rfl) ⟨rfl, rfl⟩
theorem wordB_len {s : List UInt8} (h : wordB s = true) : 1 ≤ s.length ∧ s.length ≤ 12 := by
  unfold wordB at h
  split at h
  · cases h
  · simp only [Bool.and_eq_true, decide_eq_true_eq] at h
    exact ⟨by simp, h.2⟩
theorem wordB_at {s : List UInt8} (h : wordB s = true) {i : Nat} {c : UInt8} (hi : s[i]? = some c) : (97 ≤ c.toNat ∧ c.toNat ≤ 122) ∨ (i ≠ 0 ∧ (c.toNat = 45 ∨ (48 ≤ c.toNat ∧ c.toNat ≤ 57))) := by
  unfold wordB at h
  split at h
  · cases h
  · rename_i d l
    simp only [Bool.and_eq_true, decide_eq_true_eq, List.all_eq_true, letB, Bool.or_eq_true] at h
    obtain ⟨⟨h1, h2⟩, _⟩ := h
    match i, hi with
    | 0, hi => simp at hi; subst hi; exact .inl h1
    | i + 1, hi =>
      simp at hi
      rcases h2 c (List.mem_of_getElem? hi) with h | h
      · exact .inl h
      · exact .inr ⟨by omega, h⟩
set_option maxHeartbeats 2000000 in
theorem word0 {u : PH} {s : List UInt8} (h : wordB s = true) : Fn0 Tryz.prog 80 [.string (mkS s)] u fun v _ => v = .bool true := by
  obtain ⟨hl1, hl2⟩ := wordB_len h
  refine Fn0.of Tryz.func80 (by kernel_rfl) (by kernel_rfl) ?_
  refine G.convSB (some .string) 5 s (by kernel_rfl) (by kernel_rfl) (by kernel_rfl) ?_
  intro v1 u1 l1 hb
  obtain ⟨a, c, rfl⟩ := ListP.opn hb
  rw [bytesV_length] at hb ⊢
  refine G.loop (ι := Nat) (fun i => [(0, .v (.string (mkS s))), (7, .v (.slice a s.length c)), (8, .v (.int .i64 (s.length : Int))), (9, .v (.int .i64 (i : Int)))]) (fun _ => [])
    (fun i u' m' => i ≤ s.length ∧ m' = PH.mt) (fun i => s.length - i) 0 (by kernel_rfl) (fun _ => by kernel_rfl) ⟨by kernel_rfl, by kernel_rfl, by kernel_rfl⟩ ⟨by omega, rfl⟩ ?_
  rintro J i hJ u2 m2 l2 ⟨hi, rfl⟩
  by_cases hlt : i < s.length
  · refine G.lssT (i : Int) (s.length : Int) (by kernel_rfl) (by omega) ?_
    have hsi : s[i]? = some s[i] := List.getElem?_eq_getElem hlt
    obtain ⟨b, off, rfl, e⟩ := ListP.at' (hb.mono l2) (j := i) (e := .int .u8 (s[i].toNat : Int)) (by simp [bytesV, hsi])
    have hw := wordB_at h hsi
    generalize s[i].toNat = n at e hw
    refine G.addr b off s.length c i 1 (by kernel_rfl) hlt ?_
    refine G.loadU none b (off + i * 1) (.int .u8 (n : Int)) (by kernel_rfl) (by kernel_rfl) e ?_
    by_cases hle : 97 ≤ n ∧ n ≤ 122
    · refine G.cmpG .geq .u8 (n : Int) 97 true (by kernel_rfl) rfl (by simp [cmpZ]; omega) ?_
      refine G.cmpG .leq .u8 (n : Int) 122 true (by kernel_rfl) rfl (by simp [cmpZ]; omega) ?_
      refine G.add (i : Int) 1 ((i + 1 : Nat) : Int) (by kernel_rfl) (by omega) (by omega) (by omega) ?_
      exact G.back (by kernel_rfl) (hJ (i + 1) _ _ _ ⟨by kernel_rfl, by kernel_rfl, by kernel_rfl⟩ l2 ⟨by omega, rfl⟩ (by omega))
    · obtain ⟨hi0, hd⟩ := hw.resolve_left hle
      by_cases h97 : 97 ≤ n
      · refine G.cmpG .geq .u8 (n : Int) 97 true (by kernel_rfl) rfl (by simp [cmpZ]; omega) ?_
        refine G.cmpG .leq .u8 (n : Int) 122 false (by kernel_rfl) rfl (by simp [cmpZ]; omega) ?_
        refine G.eqlF (i : Int) 0 (by kernel_rfl) (by omega) ?_
        by_cases h45 : n = 45
        · refine G.cmpG .neq .u8 (n : Int) 45 false (by kernel_rfl) rfl (by simp [cmpZ]; omega) ?_
          refine G.add (i : Int) 1 ((i + 1 : Nat) : Int) (by kernel_rfl) (by omega) (by omega) (by omega) ?_
          exact G.back (by kernel_rfl) (hJ (i + 1) _ _ _ ⟨by kernel_rfl, by kernel_rfl, by kernel_rfl⟩ l2 ⟨by omega, rfl⟩ (by omega))
        · refine G.cmpG .neq .u8 (n : Int) 45 true (by kernel_rfl) rfl (by simp [cmpZ]; omega) ?_
          refine G.cmpG .lss .u8 (n : Int) 48 false (by kernel_rfl) rfl (by simp [cmpZ]; omega) ?_
          refine G.cmpG .gtr .u8 (n : Int) 57 false (by kernel_rfl) rfl (by simp [cmpZ]; omega) ?_
          refine G.add (i : Int) 1 ((i + 1 : Nat) : Int) (by kernel_rfl) (by omega) (by omega) (by omega) ?_
          exact G.back (by kernel_rfl) (hJ (i + 1) _ _ _ ⟨by kernel_rfl, by kernel_rfl, by kernel_rfl⟩ l2 ⟨by omega, rfl⟩ (by omega))
      · refine G.cmpG .geq .u8 (n : Int) 97 false (by kernel_rfl) rfl (by simp [cmpZ]; omega) ?_
        refine G.eqlF (i : Int) 0 (by kernel_rfl) (by omega) ?_
        by_cases h45 : n = 45
        · refine G.cmpG .neq .u8 (n : Int) 45 false (by kernel_rfl) rfl (by simp [cmpZ]; omega) ?_
          refine G.add (i : Int) 1 ((i + 1 : Nat) : Int) (by kernel_rfl) (by omega) (by omega) (by omega) ?_
          exact G.back (by kernel_rfl) (hJ (i + 1) _ _ _ ⟨by kernel_rfl, by kernel_rfl, by kernel_rfl⟩ l2 ⟨by omega, rfl⟩ (by omega))
        · refine G.cmpG .neq .u8 (n : Int) 45 true (by kernel_rfl) rfl (by simp [cmpZ]; omega) ?_
          refine G.cmpG .lss .u8 (n : Int) 48 false (by kernel_rfl) rfl (by simp [cmpZ]; omega) ?_
          refine G.cmpG .gtr .u8 (n : Int) 57 false (by kernel_rfl) rfl (by simp [cmpZ]; omega) ?_
          refine G.add (i : Int) 1 ((i + 1 : Nat) : Int) (by kernel_rfl) (by omega) (by omega) (by omega) ?_
          exact G.back (by kernel_rfl) (hJ (i + 1) _ _ _ ⟨by kernel_rfl, by kernel_rfl, by kernel_rfl⟩ l2 ⟨by omega, rfl⟩ (by omega))
  · obtain rfl : i = s.length := by omega
    refine G.lssF (s.length : Int) (s.length : Int) (by kernel_rfl) (by omega) ?_
    have hq : ∀ x : Int, x = (s.length : Int) → 1 ≤ x ∧ x ≤ 12 := fun x hx => by omega
    refine G.geqT (s.length : Int) 1 (by kernel_rfl) (by omega) ?_
    refine G.leqT (s.length : Int) 12 (by kernel_rfl) (by omega) ?_
    exact G.ret (.bool true) (by kernel_rfl) ⟨rfl, rfl⟩
theorem param0 {u : PH} {p : Par} (h : PV p) : Fn0 Tryz.prog 64 [parV p] u fun v _ => v = .bool true := by
  refine Fn0.of Tryz.func64 (by kernel_rfl) (by kernel_rfl) ?_
  refine G.geqT p.1 (-1) (by kernel_rfl) (by have := h.lo; omega) ?_
  by_cases hc : p.2 = []
  · refine G.eqST p.2 [] (by kernel_rfl) hc ?_
    exact G.ret (.bool true) (by kernel_rfl) ⟨rfl, rfl⟩
  · refine G.eqSF p.2 [] (by kernel_rfl) hc ?_
    refine G.call0 _ _ (by kernel_rfl) Tryz.call80 (word0 (h.cat.resolve_left hc)) ?_
    rintro v1 u1 l1 rfl
    exact G.ret (.bool true) (by kernel_rfl) ⟨rfl, rfl⟩
theorem bad1 {u : PH} {x : Par × Rat} (h : PV x.1) (hx : Tx x.2) (h0 : x.2 ≠ 0) : Fn0 Tryz.prog 63 [termV x] u fun v _ => v = .bool false := by
  refine Fn0.of Tryz.func63 (by kernel_rfl) (by kernel_rfl) ?_
  refine G.call0 _ _ (by kernel_rfl) Tryz.call64 (param0 h) ?_
  rintro v1 u1 l1 rfl
  refine G.call0 _ _ (by kernel_rfl) Tryz.call65 (entry0 hx h0) ?_
  rintro v2 u2 l2 rfl
  exact G.ret (.bool false) (by kernel_rfl) ⟨rfl, rfl⟩
theorem bad2 {u : PH} {x : (Par × Par) × Rat} (h : PV x.1.1) (h' : PV x.1.2) (ho : ¬ 0 < cmpP x.1.1 x.1.2) (hx : Tx x.2) (h0 : x.2 ≠ 0) : Fn0 Tryz.prog 67 [prtV x] u fun v _ => v = .bool false := by
  refine Fn0.of Tryz.func67 (by kernel_rfl) (by kernel_rfl) ?_
  refine G.call0 _ _ (by kernel_rfl) Tryz.call64 (param0 h) ?_
  rintro v1 u1 l1 rfl
  refine G.call0 _ _ (by kernel_rfl) Tryz.call64 (param0 h') ?_
  rintro v2 u2 l2 rfl
  refine G.call0 _ _ (by kernel_rfl) Tryz.call35 (less0 x.1.2 x.1.1 false (decide_eq_false fun e => ho ((ordP.sym _ _).1 e))) ?_
  rintro v3 u3 l3 rfl
  refine G.call0 _ _ (by kernel_rfl) Tryz.call65 (entry0 hx h0) ?_
  rintro v4 u4 l4 rfl
  exact G.ret (.bool false) (by kernel_rfl) ⟨rfl, rfl⟩
theorem lessT0 {u : PH} {x y : Par × Rat} (h : cmpP x.1 y.1 < 0) : Fn0 Tryz.prog 69 [termV x, termV y] u fun v _ => v = .bool true := by
  refine Fn0.of Tryz.func69 (by kernel_rfl) (by kernel_rfl) ?_
  refine G.call0 _ _ (by kernel_rfl) Tryz.call35 (less0 x.1 y.1 true (decide_eq_true h)) ?_
  rintro v1 u1 l1 rfl
  exact G.ret (.bool true) (by kernel_rfl) ⟨rfl, rfl⟩
theorem lessQ0 {u : PH} {x y : (Par × Par) × Rat} (h : cmpQ x.1 y.1 < 0) : Fn0 Tryz.prog 71 [prtV x, prtV y] u fun v _ => v = .bool true := by
  refine Fn0.of Tryz.func71 (by kernel_rfl) (by kernel_rfl) ?_
  by_cases h1 : cmpP x.1.1 y.1.1 < 0
  · refine G.call0 _ _ (by kernel_rfl) Tryz.call35 (less0 x.1.1 y.1.1 true (decide_eq_true h1)) ?_
    rintro v1 u1 l1 rfl
    exact G.ret (.bool true) (by kernel_rfl) ⟨rfl, rfl⟩
  · have h2 : cmpP x.1.1 y.1.1 = 0 ∧ cmpP x.1.2 y.1.2 < 0 := by
      unfold cmpQ at h
      split at h
      · exact absurd h h1
      · rename_i e; exact ⟨by simpa using e, h⟩
    have he := ordP.eq _ _ h2.1
    refine G.call0 _ _ (by kernel_rfl) Tryz.call35 (less0 x.1.1 y.1.1 false (decide_eq_false h1)) ?_
    rintro v1 u1 l1 rfl
    refine G.eqAgg 43 #[.int .i64 x.1.1.1, .string (mkS x.1.1.2)] #[.int .i64 y.1.1.1, .string (mkS y.1.1.2)] true (by kernel_rfl) (by kernel_rfl) (by kernel_rfl) (fun w => by rw [← decide_eq_true he]; exact keyPar.eq x.1.1 y.1.1 w) ?_
    refine G.call0 _ _ (by kernel_rfl) Tryz.call35 (less0 x.1.2 y.1.2 true (decide_eq_true h2.2)) ?_
    rintro v2 u2 l2 rfl
    exact G.ret (.bool true) (by kernel_rfl) ⟨rfl, rfl⟩
theorem tIndex0 {u : PH} {v : Value} {T : List (Par × Rat)} {fid : Nat} (h : ListP u v 3 (T.map termV)) (hl : T.length ≤ 1000000)
    (hcall : ∀ args w, (callFunc fid args).run Tryz.prog w = .ok (.enter fid args) w) (hf : ∀ p ∈ T, ∀ u', PH.le u u' → Fn0 Tryz.prog fid [termV p] u' fun v _ => v = .bool false) :
    Fn0 Tryz.prog 116 [v, .func (.func fid) #[] #[]] u fun v' _ => v' = .int .i64 (-1) := by
  obtain ⟨a, c, rfl⟩ := h.opn
  rw [List.length_map] at h ⊢
  refine Fn0.of Tryz.func116 (by kernel_rfl) (by kernel_rfl) ?_
  refine G.loop (ι := Nat) (fun i => [(0, .v (.slice a T.length c)), (1, .v (.func (.func fid) #[] #[])), (7, .v (.int .i64 (T.length : Int))), (8, .v (.int .i64 (i : Int)))]) (fun _ => [])
    (fun i u' m' => i ≤ T.length ∧ m' = PH.mt) (fun i => T.length - i) 0 (by kernel_rfl) (fun _ => by kernel_rfl) ⟨by kernel_rfl, by kernel_rfl, by kernel_rfl⟩ ⟨by omega, rfl⟩ ?_
  rintro J i hJ u1 m1 l1 ⟨hi, rfl⟩
  by_cases hlt : i < T.length
  · refine G.lssT (i : Int) (T.length : Int) (by kernel_rfl) (by omega) ?_
    have hTi : T[i]? = some T[i] := List.getElem?_eq_getElem hlt
    obtain ⟨ba, oa, rfl, ea⟩ := ListP.at' (h.mono l1) (j := i) (e := termV T[i]) (by simp [hTi])
    refine G.addr ba oa T.length c i 3 (by kernel_rfl) (by omega) ?_
    refine G.loadU (some 3) ba (oa + i * 3) (termV T[i]) (by kernel_rfl) (by kernel_rfl) ea ?_
    refine G.call0 fid [termV T[i]] (by kernel_rfl) hcall (hf T[i] (List.getElem_mem hlt) u1 l1) ?_
    rintro v2 u2 l2 rfl
    refine G.add (i : Int) 1 ((i + 1 : Nat) : Int) (by kernel_rfl) (by omega) (by omega) (by omega) ?_
    exact G.back (by kernel_rfl) (hJ (i + 1) _ _ _ ⟨by kernel_rfl, by kernel_rfl, by kernel_rfl⟩ (l1.trans l2) ⟨by omega, rfl⟩ (by omega))
  · obtain rfl : i = T.length := by omega
    refine G.lssF (T.length : Int) (T.length : Int) (by kernel_rfl) (by omega) ?_
    exact G.ret (.int .i64 (-1)) (by kernel_rfl) ⟨rfl, rfl⟩
theorem tContains0 {u : PH} {v : Value} {T : List (Par × Rat)} {fid : Nat} (h : ListP u v 3 (T.map termV)) (hl : T.length ≤ 1000000)
    (hcall : ∀ args w, (callFunc fid args).run Tryz.prog w = .ok (.enter fid args) w) (hf : ∀ p ∈ T, ∀ u', PH.le u u' → Fn0 Tryz.prog fid [termV p] u' fun v _ => v = .bool false) :
    Fn0 Tryz.prog 62 [v, .func (.func fid) #[] #[]] u fun v' _ => v' = .bool false := by
  obtain ⟨a, c, rfl⟩ := h.opn
  refine Fn0.of Tryz.func62 (by kernel_rfl) (by kernel_rfl) ?_
  refine G.call0 _ _ (by kernel_rfl) Tryz.call116 (tIndex0 h hl hcall hf) ?_
  rintro v1 u1 l1 rfl
  refine G.geqF (-1) 0 (by kernel_rfl) (by omega) ?_
  exact G.ret (.bool false) (by kernel_rfl) ⟨rfl, rfl⟩
theorem tAscending0 {u : PH} {v : Value} {T : List (Par × Rat)} {fid : Nat} (h : ListP u v 3 (T.map termV)) (hl : T.length ≤ 1000000)
    (hcall : ∀ args w, (callFunc fid args).run Tryz.prog w = .ok (.enter fid args) w) (hf : ∀ (i : Nat) x y, T[i]? = some x → T[i + 1]? = some y → ∀ u', Fn0 Tryz.prog fid [termV x, termV y] u' fun v _ => v = .bool true) :
    Fn0 Tryz.prog 68 [v, .func (.func fid) #[] #[]] u fun v' _ => v' = .bool true := by
  obtain ⟨a, c, rfl⟩ := h.opn
  rw [List.length_map] at h ⊢
  refine Fn0.of Tryz.func68 (by kernel_rfl) (by kernel_rfl) ?_
  refine G.loop (ι := Nat) (fun i => [(0, .v (.slice a T.length c)), (1, .v (.func (.func fid) #[] #[])), (5, .v (.int .i64 ((i + 1 : Nat) : Int)))]) (fun _ => [])
    (fun i u' m' => i ≤ T.length ∧ m' = PH.mt) (fun i => T.length - i) 0 (by kernel_rfl) (fun _ => by kernel_rfl) ⟨by kernel_rfl, by kernel_rfl, by kernel_rfl⟩ ⟨by omega, rfl⟩ ?_
  rintro J i hJ u1 m1 l1 ⟨hi, rfl⟩
  by_cases hlt : i + 1 < T.length
  · refine G.lssT ((i + 1 : Nat) : Int) (T.length : Int) (by kernel_rfl) (by omega) ?_
    have hTi : T[i]? = some T[i] := List.getElem?_eq_getElem (by omega)
    have hTj : T[i + 1]? = some T[i + 1] := List.getElem?_eq_getElem hlt
    obtain ⟨ba, oa, rfl, ea⟩ := ListP.at' (h.mono l1) (j := i) (e := termV T[i]) (by simp [hTi])
    obtain ⟨_, _, e', eb⟩ := ListP.at' (h.mono l1) (j := i + 1) (e := termV T[i + 1]) (by simp [hTj])
    cases e'
    refine G.sub ((i + 1 : Nat) : Int) 1 (i : Int) (by kernel_rfl) (by omega) (by omega) (by omega) ?_
    refine G.addr ba oa T.length c i 3 (by kernel_rfl) (by omega) ?_
    refine G.loadU (some 3) ba (oa + i * 3) (termV T[i]) (by kernel_rfl) (by kernel_rfl) ea ?_
    refine G.addr ba oa T.length c (i + 1) 3 (by kernel_rfl) (by omega) ?_
    refine G.loadU (some 3) ba (oa + (i + 1) * 3) (termV T[i + 1]) (by kernel_rfl) (by kernel_rfl) eb ?_
    refine G.call0 fid [termV T[i], termV T[i + 1]] (by kernel_rfl) hcall (hf i _ _ hTi hTj u1) ?_
    rintro v2 u2 l2 rfl
    refine G.add ((i + 1 : Nat) : Int) 1 ((i + 1 + 1 : Nat) : Int) (by kernel_rfl) (by omega) (by omega) (by omega) ?_
    exact G.back (by kernel_rfl) (hJ (i + 1) _ _ _ ⟨by kernel_rfl, by kernel_rfl, by kernel_rfl⟩ (l1.trans l2) ⟨by omega, rfl⟩ (by omega))
  · refine G.lssF ((i + 1 : Nat) : Int) (T.length : Int) (by kernel_rfl) (by omega) ?_
    exact G.ret (.bool true) (by kernel_rfl) ⟨rfl, rfl⟩
theorem qIndex0 {u : PH} {v : Value} {T : List ((Par × Par) × Rat)} {fid : Nat} (h : ListP u v 5 (T.map prtV)) (hl : T.length ≤ 1000000)
    (hcall : ∀ args w, (callFunc fid args).run Tryz.prog w = .ok (.enter fid args) w) (hf : ∀ p ∈ T, ∀ u', PH.le u u' → Fn0 Tryz.prog fid [prtV p] u' fun v _ => v = .bool false) :
    Fn0 Tryz.prog 117 [v, .func (.func fid) #[] #[]] u fun v' _ => v' = .int .i64 (-1) := by
  obtain ⟨a, c, rfl⟩ := h.opn
  rw [List.length_map] at h ⊢
  refine Fn0.of Tryz.func117 (by kernel_rfl) (by kernel_rfl) ?_
  refine G.loop (ι := Nat) (fun i => [(0, .v (.slice a T.length c)), (1, .v (.func (.func fid) #[] #[])), (7, .v (.int .i64 (T.length : Int))), (8, .v (.int .i64 (i : Int)))]) (fun _ => [])
    (fun i u' m' => i ≤ T.length ∧ m' = PH.mt) (fun i => T.length - i) 0 (by kernel_rfl) (fun _ => by kernel_rfl) ⟨by kernel_rfl, by kernel_rfl, by kernel_rfl⟩ ⟨by omega, rfl⟩ ?_
  rintro J i hJ u1 m1 l1 ⟨hi, rfl⟩
  by_cases hlt : i < T.length
  · refine G.lssT (i : Int) (T.length : Int) (by kernel_rfl) (by omega) ?_
    have hTi : T[i]? = some T[i] := List.getElem?_eq_getElem hlt
    obtain ⟨ba, oa, rfl, ea⟩ := ListP.at' (h.mono l1) (j := i) (e := prtV T[i]) (by simp [hTi])
    refine G.addr ba oa T.length c i 5 (by kernel_rfl) (by omega) ?_
    refine G.loadU (some 5) ba (oa + i * 5) (prtV T[i]) (by kernel_rfl) (by kernel_rfl) ea ?_
    refine G.call0 fid [prtV T[i]] (by kernel_rfl) hcall (hf T[i] (List.getElem_mem hlt) u1 l1) ?_
    rintro v2 u2 l2 rfl
    refine G.add (i : Int) 1 ((i + 1 : Nat) : Int) (by kernel_rfl) (by omega) (by omega) (by omega) ?_
    exact G.back (by kernel_rfl) (hJ (i + 1) _ _ _ ⟨by kernel_rfl, by kernel_rfl, by kernel_rfl⟩ (l1.trans l2) ⟨by omega, rfl⟩ (by omega))
  · obtain rfl : i = T.length := by omega
    refine G.lssF (T.length : Int) (T.length : Int) (by kernel_rfl) (by omega) ?_
    exact G.ret (.int .i64 (-1)) (by kernel_rfl) ⟨rfl, rfl⟩
theorem qContains0 {u : PH} {v : Value} {T : List ((Par × Par) × Rat)} {fid : Nat} (h : ListP u v 5 (T.map prtV)) (hl : T.length ≤ 1000000)
    (hcall : ∀ args w, (callFunc fid args).run Tryz.prog w = .ok (.enter fid args) w) (hf : ∀ p ∈ T, ∀ u', PH.le u u' → Fn0 Tryz.prog fid [prtV p] u' fun v _ => v = .bool false) :
    Fn0 Tryz.prog 66 [v, .func (.func fid) #[] #[]] u fun v' _ => v' = .bool false := by
  obtain ⟨a, c, rfl⟩ := h.opn
  refine Fn0.of Tryz.func66 (by kernel_rfl) (by kernel_rfl) ?_
  refine G.call0 _ _ (by kernel_rfl) Tryz.call117 (qIndex0 h hl hcall hf) ?_
  rintro v1 u1 l1 rfl
  refine G.geqF (-1) 0 (by kernel_rfl) (by omega) ?_
  exact G.ret (.bool false) (by kernel_rfl) ⟨rfl, rfl⟩
theorem qAscending0 {u : PH} {v : Value} {T : List ((Par × Par) × Rat)} {fid : Nat} (h : ListP u v 5 (T.map prtV)) (hl : T.length ≤ 1000000)
    (hcall : ∀ args w, (callFunc fid args).run Tryz.prog w = .ok (.enter fid args) w) (hf : ∀ (i : Nat) x y, T[i]? = some x → T[i + 1]? = some y → ∀ u', Fn0 Tryz.prog fid [prtV x, prtV y] u' fun v _ => v = .bool true) :
    Fn0 Tryz.prog 70 [v, .func (.func fid) #[] #[]] u fun v' _ => v' = .bool true := by
  obtain ⟨a, c, rfl⟩ := h.opn
  rw [List.length_map] at h ⊢
  refine Fn0.of Tryz.func70 (by kernel_rfl) (by kernel_rfl) ?_
  refine G.loop (ι := Nat) (fun i => [(0, .v (.slice a T.length c)), (1, .v (.func (.func fid) #[] #[])), (5, .v (.int .i64 ((i + 1 : Nat) : Int)))]) (fun _ => [])
    (fun i u' m' => i ≤ T.length ∧ m' = PH.mt) (fun i => T.length - i) 0 (by kernel_rfl) (fun _ => by kernel_rfl) ⟨by kernel_rfl, by kernel_rfl, by kernel_rfl⟩ ⟨by omega, rfl⟩ ?_
  rintro J i hJ u1 m1 l1 ⟨hi, rfl⟩
  by_cases hlt : i + 1 < T.length
  · refine G.lssT ((i + 1 : Nat) : Int) (T.length : Int) (by kernel_rfl) (by omega) ?_
    have hTi : T[i]? = some T[i] := List.getElem?_eq_getElem (by omega)
    have hTj : T[i + 1]? = some T[i + 1] := List.getElem?_eq_getElem hlt
    obtain ⟨ba, oa, rfl, ea⟩ := ListP.at' (h.mono l1) (j := i) (e := prtV T[i]) (by simp [hTi])
    obtain ⟨_, _, e', eb⟩ := ListP.at' (h.mono l1) (j := i + 1) (e := prtV T[i + 1]) (by simp [hTj])
    cases e'
    refine G.sub ((i + 1 : Nat) : Int) 1 (i : Int) (by kernel_rfl) (by omega) (by omega) (by omega) ?_
    refine G.addr ba oa T.length c i 5 (by kernel_rfl) (by omega) ?_
    refine G.loadU (some 5) ba (oa + i * 5) (prtV T[i]) (by kernel_rfl) (by kernel_rfl) ea ?_
    refine G.addr ba oa T.length c (i + 1) 5 (by kernel_rfl) (by omega) ?_
    refine G.loadU (some 5) ba (oa + (i + 1) * 5) (prtV T[i + 1]) (by kernel_rfl) (by kernel_rfl) eb ?_
    refine G.call0 fid [prtV T[i], prtV T[i + 1]] (by kernel_rfl) hcall (hf i _ _ hTi hTj u1) ?_
    rintro v2 u2 l2 rfl
    refine G.add ((i + 1 : Nat) : Int) 1 ((i + 1 + 1 : Nat) : Int) (by kernel_rfl) (by omega) (by omega) (by omega) ?_
    exact G.back (by kernel_rfl) (hJ (i + 1) _ _ _ ⟨by kernel_rfl, by kernel_rfl, by kernel_rfl⟩ (l1.trans l2) ⟨by omega, rfl⟩ (by omega))
  · refine G.lssF ((i + 1 : Nat) : Int) (T.length : Int) (by kernel_rfl) (by omega) ?_
    exact G.ret (.bool true) (by kernel_rfl) ⟨rfl, rfl⟩
theorem sort_step {κ : Type} {c : κ → κ → Int} {T : List (κ × Rat)} (h : SortK c (T.map (·.1))) {i : Nat} {x y : κ × Rat} (hx : T[i]? = some x) (hy : T[i + 1]? = some y) : c x.1 y.1 < 0 := by
  obtain ⟨h1, rfl⟩ := List.getElem?_eq_some_iff.1 hx
  obtain ⟨h2, rfl⟩ := List.getElem?_eq_some_iff.1 hy
  have := List.pairwise_iff_getElem.1 h i (i + 1) (by simpa using h1) (by simpa using h2) (by omega)
  simpa using this
theorem valid0 {u : PH} {v : Value} {F : CF} {K : Nat} (hv : CofP u v F K) (sF : CFS F) (vF : CFV F) (hK : K ≤ 1000000) : Fn0 Tryz.prog 33 [v] u fun v' _ => v' = .bool true := by
  obtain ⟨T, Q, a1, c1, a2, c2, rfl, hT, hQ, cT, cQ, kT, kQ⟩ := hv
  refine Fn0.of Tryz.func33 (by kernel_rfl) (by kernel_rfl) ?_
  refine G.call0 _ _ (by kernel_rfl) Tryz.call52 (ratValid0 (SB.tx sF.c)) ?_
  rintro v1 u1 l1 rfl
  refine G.call0 _ _ (by kernel_rfl) Tryz.call62 (tContains0 (fid := 63) (hT.mono l1) (by omega) Tryz.call63 (fun p hp u' _ => by
    obtain ⟨e1, e2⟩ := cT.val p hp
    exact bad1 (vF.s _ (by rw [← e1]; exact e2)) (SB.tx (by rw [e1]; exact sF.s _)) e2)) ?_
  rintro v2 u2 l2 rfl
  refine G.call0 _ _ (by kernel_rfl) Tryz.call66 (qContains0 (fid := 67) (hQ.mono (l1.trans l2)) (by omega) Tryz.call67 (fun p hp u' _ => by
    obtain ⟨e1, e2⟩ := cQ.val p hp
    obtain ⟨f1, f2, f3⟩ := vF.t p.1 (by rw [← e1]; exact e2)
    exact bad2 f1 f2 f3 (SB.tx (by rw [e1]; exact sF.t _)) e2)) ?_
  rintro v3 u3 l3 rfl
  refine G.call0 _ _ (by kernel_rfl) Tryz.call68 (tAscending0 (fid := 69) (hT.mono ((l1.trans l2).trans l3)) (by omega) Tryz.call69 (fun i x y hx hy u' => lessT0 (sort_step cT.srt hx hy))) ?_
  rintro v4 u4 l4 rfl
  refine G.call0 _ _ (by kernel_rfl) Tryz.call70 (qAscending0 (fid := 71) (hQ.mono (((l1.trans l2).trans l3).trans l4)) (by omega) Tryz.call71 (fun i x y hx hy u' => lessQ0 (sort_step cQ.srt hx hy))) ?_
  rintro v5 u5 l5 rfl
  exact G.ret (.bool true) (by kernel_rfl) ⟨rfl, rfl⟩
end Go.Proofs.YtikfmknnbjocmaaGreatDoor
end
